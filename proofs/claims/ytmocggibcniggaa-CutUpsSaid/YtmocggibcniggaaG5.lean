/- Part of the proofs of this seat's statements: what the functions compute. No condition. -/
import Derived.Test.YtmocggibcniggaaG4
import Derived.Test.YtmocggibcniggaaG3
import Derived.Test.YtmocggibcniggaaK4
set_option linter.unusedSimpArgs false
set_option linter.unusedVariables false
namespace Go.Proofs.Ytmocggibcniggaa.Kt
open Go Kw Go.Proofs
set_option maxHeartbeats 4000000
set_option maxRecDepth 100000
/-! ### the addresses of Graph's nets -/
theorem and24_all : (List.range 4000).all (fun q => Nat.beq ((256 * q) &&& 4294967040) (256 * q) && Nat.beq ((256 * q + 9) &&& 4294967040) (256 * q)) = true := by kernel_rfl
theorem mask24 : maskF 24 = 4294967040 := by kernel_rfl
theorem bits24 : bitsF 4294967040 = 24 := by kernel_rfl
theorem pnet24 {i : Int} (h0 : 0 ≤ i) (h1 : i ≤ 1000000) (h2 : i % 256 = 0) : pnetF i 24 = i ∧ pnetF (i + 9) 24 = i := by
  obtain ⟨q, hq⟩ : ∃ q : Nat, i = (256 * q : Nat) := ⟨(i / 256).toNat, by omega⟩
  have h := List.all_eq_true.1 and24_all q (List.mem_range.2 (by omega))
  rw [Bool.and_eq_true] at h
  have e1 := Nat.eq_of_beq_eq_true h.1
  have e2 := Nat.eq_of_beq_eq_true h.2
  unfold pnetF
  rw [mask24, hq]
  refine ⟨?_, ?_⟩
  · have := and_i64 (256 * q) 4294967040 (by omega) (by omega)
    rw [e1] at this
    exact this
  · have := and_i64 (256 * q + 9) 4294967040 (by omega) (by omega)
    rw [e2] at this
    exact this
theorem in24 {i : Int} (h0 : 0 ≤ i) (h1 : i ≤ 1000000) (h2 : i % 256 = 0) : netF i 24 = i ∧ inP (i + 9) i 24 = true := by
  obtain ⟨e1, e2⟩ := pnet24 h0 h1 h2
  refine ⟨by rw [net_same 24 h0 (by omega)]; exact e1, ?_⟩
  have ok : ∀ {a : Int}, 0 ≤ a → a ≤ 4294967295 → okA a = true := fun h h' => by
    unfold okA; rw [leB_eq, leB_eq, decide_eq_true h, decide_eq_true h']; rfl
  unfold inP
  rw [ok (by omega) (by omega), ok h0 (by omega), e1, e2, eqB_eq, leB_eq, leB_eq]
  simp
theorem vert_found {l : List Ls} {v : Vt} (h : v ∈ vertsL l) : (findL l v).isSome = true := by
  obtain ⟨y, hy, ha, h⟩ := verts_mem.1 h
  rcases h with ⟨h1, h2, rfl⟩ | ⟨h1, rfl⟩
  · exact fold_has ha (by unfold isV; rw [h1, h2]; simp) rfl l none hy
  · exact fold_has ha (by unfold isV; rw [h1]; simp) rfl l none hy
theorem GrOk.sn {n : Int} {l : List Ls} (h : GrOk n l) : ∀ x ∈ (mapL l).sn, inP (x.p + 9) x.p x.b = true ∧ x.v ∈ (mapL l).vs := fun x hx => by
  have hx : x ∈ (vertsL l).flatMap (snF l) := hx
  obtain ⟨v, hv, hs⟩ := List.mem_flatMap.1 hx
  unfold snF at hs
  split at hs
  · rename_i hk
    rw [List.mem_singleton] at hs
    have hk2 : v.k = 2 := by rw [eqB_eq] at hk; exact of_decide_eq_true hk
    obtain ⟨y, hy⟩ : ∃ y, findL l v = some y := Option.isSome_iff_exists.1 (vert_found hv)
    rw [hy] at hs
    obtain ⟨q1, q2, q3, q4⟩ := find_is hy
    have hy2 : y.bits = 24 ∧ 0 ≤ y.id ∧ y.id ≤ 1000000 ∧ y.id % 256 = 0 := by
      obtain ⟨k, gs, ns, _, rfl, h2, h3, _⟩ := h.ex
      rcases List.mem_append.1 q1 with q1 | q1
      · obtain ⟨j, hj⟩ := List.mem_iff_getElem?.1 q1
        rw [(h2.el j y hj).1] at q3
        unfold isV at q3
        rw [hk2] at q3
        simp at q3
      · obtain ⟨e, _, r1, r2, r3⟩ := h3 y q1
        exact ⟨by rw [e], r1, r2, r3⟩
    rw [hs]
    show inP (netF v.i y.bits + 9) (netF v.i y.bits) y.bits = true ∧ v ∈ (mapL l).vs
    obtain ⟨b1, b2, b3, b4⟩ := hy2
    rw [b1, ← q4, (in24 b2 b3 b4).1]
    exact ⟨(in24 b2 b3 b4).2, hv⟩
  · cases hs
theorem GrOk.sb {n : Int} {l : List Ls} (h : GrOk n l) : ∀ x ∈ (mapL l).sb, inP (x.p + 9) x.p x.b = true ∧ (⟨1, x.r⟩ : Vt) ∈ (mapL l).vs := fun x hx => by
  have hx : x ∈ (vertsL l).flatMap (sbF l) := hx
  obtain ⟨v, hv, hs⟩ := List.mem_flatMap.1 hx
  unfold sbF at hs
  split at hs
  · cases hs
  · rename_i hk
    have hk1 : v.k = 1 := by
      rcases verts_kind hv with h | h
      · exact h
      · rw [h] at hk
        have : eqB (2 : Int) 2 = true := by rw [eqB_eq]; rfl
        rw [this] at hk; cases hk
    obtain ⟨y, hy⟩ : ∃ y, findL l v = some y := Option.isSome_iff_exists.1 (vert_found hv)
    rw [hy] at hs
    obtain ⟨q, hq, hs⟩ := List.mem_flatMap.1 hs
    obtain ⟨q1, _, _, _⟩ := find_is hy
    have hlk := h.link y q1 q hq
    unfold stF at hs
    split at hs
    · rename_i hc
      rw [Bool.and_eq_true, eqB_eq] at hc
      obtain ⟨b1, b2, b3, b4⟩ := hlk.2.2 (of_decide_eq_true hc.1)
      rw [List.mem_singleton] at hs
      rw [hs]
      show inP (netF q.i (bitsF q.d) + 9) (netF q.i (bitsF q.d)) (bitsF q.d) = true ∧ (⟨1, v.i⟩ : Vt) ∈ (mapL l).vs
      rw [b1, bits24, (in24 b2 b3 b4).1]
      refine ⟨(in24 b2 b3 b4).2, ?_⟩
      have : (⟨1, v.i⟩ : Vt) = v := by cases v; simp only [Vt.mk.injEq]; exact ⟨hk1.symm, trivial⟩
      rw [this]
      exact hv
    · cases hs
/-- Once found it stays so, at one of the map's. -/
structure Fnd (m : Mp) (s : Src) : Prop where
  v : s.ok = true → s.v ∈ m.vs
theorem fold_fnd {α : Type} {f : Src → α → Src} {Q : Src → Prop} : ∀ (l : List α) (s : Src), (∀ s, ∀ x ∈ l, Q s → Q (f s x)) → Q s → Q (l.foldl f s)
  | [], _, _, h => h
  | x :: l, s, hf, h => by
    rw [List.foldl_cons]
    exact fold_fnd l _ (fun s y hy => hf s y (List.mem_cons_of_mem _ hy)) (hf s x (List.mem_cons_self ..) h)
theorem fold_hit {α : Type} {f : Src → α → Src} {x : α} (hit : ∀ s, (f s x).ok = true) (keep : ∀ s y, s.ok = true → (f s y).ok = true) : ∀ (l : List α) (s : Src), x ∈ l → (l.foldl f s).ok = true
  | y :: l, s, h => by
    rw [List.foldl_cons]
    rcases List.mem_cons.1 h with rfl | h
    · exact fold_fnd (Q := fun s => s.ok = true) l _ (fun s y _ => keep s y) (hit s)
    · exact fold_hit hit keep l _ h
theorem sn1_keep (a : Int) (s : Src) (x : Sn) (h : s.ok = true) : (sn1 a s x).ok = true := by unfold sn1; split; rfl; exact h
theorem sb1_keep (a : Int) (s : Src) (x : Sb) (h : s.ok = true) : (sb1 a s x).ok = true := by unfold sb1; split; rfl; exact h
theorem sn1_hit {a : Int} {x : Sn} (hi : inP a x.p x.b = true) (s : Src) : (sn1 a s x).ok = true := by
  unfold sn1
  split
  · rfl
  · rename_i h
    cases hk : s.ok with
    | true => rfl
    | false => exact absurd ⟨hi, .inl hk⟩ h
theorem sb1_hit {a : Int} {x : Sb} (hi : inP a x.p x.b = true) (s : Src) : (sb1 a s x).ok = true := by
  unfold sb1
  split
  · rfl
  · rename_i h
    cases hk : s.ok with
    | true => rfl
    | false => exact absurd ⟨hi, .inl hk⟩ h
end Go.Proofs.Ytmocggibcniggaa.Kt
namespace Go.Proofs.Ytmocggibcniggaa.Kt
open Go Kw Go.Proofs
set_option maxHeartbeats 4000000
set_option maxRecDepth 100000
/-! ### whose address the source is -/
theorem src_one {a : Int} {m : Mp} {z : Src} (hz : z.ok = true) (h1 : ∀ x ∈ m.sn, inP a x.p x.b = true → (⟨x.v, x.p, x.b, true⟩ : Src) = z) (h2 : ∀ x ∈ m.sb, inP a x.p x.b = true → (⟨⟨1, x.r⟩, x.p, x.b, true⟩ : Src) = z) (hex : (∃ x ∈ m.sn, inP a x.p x.b = true) ∨ ∃ x ∈ m.sb, inP a x.p x.b = true) : srcF a m = z := by
  have hq : srcF a m = z0 ∨ srcF a m = z := fold_fnd (Q := fun s => s = z0 ∨ s = z) _ _ (fun s x hx hs => by
    unfold sb1
    split
    · rename_i h
      exact .inr (h2 x hx h.1)
    · exact hs) (fold_fnd (Q := fun s => s = z0 ∨ s = z) _ _ (fun s x hx hs => by
    unfold sn1
    split
    · rename_i h
      exact .inr (h1 x hx h.1)
    · exact hs) (.inl rfl))
  have hok : (srcF a m).ok = true := by
    rcases hex with ⟨x, hx, h⟩ | ⟨x, hx, h⟩
    · exact fold_fnd (Q := fun s => s.ok = true) _ _ (fun s y _ => sb1_keep _ s y) (fold_hit (sn1_hit h) (sn1_keep _) _ _ hx)
    · exact fold_hit (sb1_hit h) (sb1_keep _) _ _ hx
  rcases hq with hq | hq
  · rw [hq] at hok; cases hok
  · exact hq
theorem in_net {a p : Int} (h : inP a p 24 = true) : pnetF a 24 = pnetF p 24 := by
  unfold inP at h
  simp only [Bool.and_eq_true] at h
  have := h.2.2.2.2
  rw [eqB_eq] at this
  exact of_decide_eq_true this
theorem one_out {O : List Ot} {up : Int} {outs : List Ot} {z : Ot} (h : EntO O up outs) (hO : ∀ x ∈ O, x = z) (hz : z ∈ O) (hu : z.a ≠ up) : outs = [z] := by
  have hzm : z ∈ outs := (h.mem z).2 ⟨hz, hu, fun y hy _ => by rw [hO y hy]; exact Int.le_refl _⟩
  have hall : ∀ x ∈ outs, x = z := fun x hx => hO x ((h.mem x).1 hx).1
  have hpw := h.pw
  match outs, hall, hpw, hzm with
  | [], _, _, hzm => cases hzm
  | [y], hall, _, _ => rw [hall y (List.mem_singleton.2 rfl)]
  | y :: w :: l, hall, hpw, _ =>
    rw [List.pairwise_cons] at hpw
    have h1 := hpw.1 w (List.mem_cons_self ..)
    rw [hall y (List.mem_cons_self ..), hall w (List.mem_cons_of_mem _ (List.mem_cons_self ..))] at h1
    exact absurd h1 (Int.lt_irrefl _)
theorem mem_zip {α β : Type} {l : List α} {m : List β} {x : α × β} : x ∈ l.zip m ↔ ∃ i : Nat, l[i]? = some x.1 ∧ m[i]? = some x.2 := by
  rw [List.mem_iff_getElem?]
  constructor
  · rintro ⟨i, hi⟩
    rw [List.getElem?_zip_eq_some] at hi
    exact ⟨i, hi⟩
  · rintro ⟨i, hi⟩
    exact ⟨i, List.getElem?_zip_eq_some.2 hi⟩
/-! ### the row with a stub at each -/
section
variable {n : Nat} {cs up dn : Nat → Int} {St : Nat → Lk → Prop} {gs : List Ls} {t : List Nd}
/-- Whose parent is a Node of the row, stands behind it. -/
theorem RowL.kid (h : RowL n cs up dn St gs) (hc : ∀ j, j + 1 < n → 1 ≤ cs j ∧ cs j ≤ 256) (hn : n ≤ 1000) (hn0 : 0 < n) (hT : Tr gs ⟨1, ((0 : Nat) : Int) + 1⟩ t) {a b : Nat} {x m : Nd} (hx : t[a]? = some x) {j : Nat} (hj : j < n) (hv : x.v = ⟨1, (j : Int) + 1⟩) (hm : t[b]? = some m) (hp : m.p = a) : j + 1 < n ∧ m.v = ⟨1, (j : Int) + 2⟩ ∧ m.d = up j := by
  have hb : 0 < b := by
    rcases Nat.eq_zero_or_pos b with rfl | hb
    · have := hT.tre.root m hm
      omega
    · exact hb
  obtain ⟨e, he, p, y, _, hy, hyv, het, hmp, _, hmd, _⟩ := hT.gr.edge hb hm
  have hpa : p = a := by omega
  subst hpa
  rw [hx] at hy
  cases hy
  obtain ⟨i, hi, f1, f2⟩ := h.edge he
  rw [hv, f1] at hyv
  have hij : i = j := by
    have := congrArg Vt.i hyv
    simp only at this
    omega
  subst hij
  rcases f2 with ⟨g1, g2, _, g4⟩ | ⟨g1, g2, _, _⟩
  · exact ⟨g1, by rw [← het, g2], by rw [hmd, g4]⟩
  · exfalso
    have hmv : m.v = ⟨1, (i : Int)⟩ := by rw [← het, g2]
    obtain ⟨j', rfl⟩ : ∃ j', i = j' + 1 := ⟨i - 1, by omega⟩
    rcases Nat.eq_zero_or_pos j' with rfl | h0
    · have := hT.gr.inj hm hT.hd (by rw [hmv]; rfl)
      omega
    · obtain ⟨j2, rfl⟩ : ∃ j2, j' = j2 + 1 := ⟨j' - 1, by omega⟩
      obtain ⟨_, z, hz, hzv, hmp', _⟩ := h.par_up hc hn hn0 hT hm (j := j2) (by omega) (Nat.zero_le _) (by rw [hmv]; congr 1)
      have : par t b = p := by omega
      rw [this, hx] at hz
      cases hz
      rw [hv] at hzv
      have := congrArg Vt.i hzv
      simp only at this
      omega
/-- How far it is to the member at the end. -/
theorem RowL.need (h : RowL n cs up dn St gs) (hc : ∀ j, j + 1 < n → 1 ≤ cs j ∧ cs j ≤ 256) (hn : n ≤ 1000) (hn0 : 0 < n) (hT : Tr gs ⟨1, ((0 : Nat) : Int) + 1⟩ t) {o : List Int} (hR : Rch t [] [⟨1, (n : Int)⟩] o) : ∀ (d j : Nat), j + d + 1 = n → ∀ (a : Nat) (x : Nd), t[a]? = some x → x.v = ⟨1, (j : Int) + 1⟩ → o[a]? = some ((n : Int) - j) := by
  intro d
  induction d with
  | zero =>
    intro j hj a x hx hv
    have hal := (List.getElem?_eq_some_iff.1 hx).1
    obtain ⟨y, hy⟩ : ∃ y, o[a]? = some y := ⟨_, List.getElem?_eq_getElem (by rw [hR.lo]; exact hal)⟩
    have hval := hR.at_ a x y hx hy
    have hm : isMb [⟨1, (n : Int)⟩] x = true := by
      unfold isMb
      rw [List.any_eq_true]
      exact ⟨_, List.mem_singleton.2 rfl, decide_eq_true (by rw [hv]; congr 1; omega)⟩
    rw [hy, hval.me (isW_nil x) hm]
    congr 1
    omega
  | succ d ih =>
    intro j hj a x hx hv
    have hal := (List.getElem?_eq_some_iff.1 hx).1
    obtain ⟨y, hy⟩ : ∃ y, o[a]? = some y := ⟨_, List.getElem?_eq_getElem (by rw [hR.lo]; exact hal)⟩
    have hval := hR.at_ a x y hx hy
    have hm : isMb [⟨1, (n : Int)⟩] x = false := by
      unfold isMb
      rw [List.any_eq_false]
      intro z hz
      rw [List.mem_singleton.1 hz, hv]
      simp only [decide_eq_true_eq]
      intro hh
      have := congrArg Vt.i hh
      simp only at this
      omega
    obtain ⟨b, m, hm1, hm2, _⟩ := h.at_ hc hn hn0 hT (j + 1) (by omega)
    have hm2 : m.v = ⟨1, (j : Int) + 2⟩ := by rw [hm2]; congr 1
    obtain ⟨hb, z, hz, hzv, hmp, _⟩ := h.par_up hc hn hn0 hT hm1 (j := j) (by omega) (Nat.zero_le _) hm2
    have hpa : par t b = a := hT.gr.inj hz hx (by rw [hzv, hv])
    rw [hpa] at hmp
    have hab : a < b := by
      obtain ⟨_, _, p, _, hp, _, _, _, hmp2, _⟩ := hT.gr.edge hb hm1
      omega
    have hob := ih (j + 1) (by omega) b m hm1 (by rw [hm2]; congr 1)
    obtain ⟨c1, c2⟩ := hval.le (isW_nil x) hm b m _ hab hm1 hmp hob (by omega)
    obtain ⟨b', m', y', k1, k2, k3, k4, k5, k6⟩ := hval.or (isW_nil x) hm c1
    obtain ⟨_, e1, _⟩ := h.kid hc hn hn0 hT hx (by omega) hv k2 k3
    have : b' = b := hT.gr.inj k2 hm1 (by rw [e1, hm2])
    subst this
    rw [hob] at k4
    cases k4
    rw [hm1] at k2
    cases k2
    have hck : cK x m = 1 := if_pos ⟨by rw [hm2], by rw [hv]⟩
    have hcp : cP x = 0 := if_pos (by rw [hv])
    rw [hy, k6, hck, hcp]
    congr 1
    omega
/-- What a router of the row goes on to. -/
theorem RowL.outs (h : RowL n cs up dn St gs) (hc : ∀ j, j + 1 < n → 1 ≤ cs j ∧ cs j ≤ 256) (hn : n ≤ 1000) (hn0 : 0 < n) (hT : Tr gs ⟨1, ((0 : Nat) : Int) + 1⟩ t) {o : List Int} (hR : Rch t [] [⟨1, (n : Int)⟩] o) {j : Nat} (hj : j + 1 < n) {a : Nat} {x : Nd} (hx : t[a]? = some x) (hv : x.v = ⟨1, (j : Int) + 1⟩) (hu : up j ≠ 0) {g pf bt : Int} {outs : List Ot} (hO : EntO (outs0 t a o [] g) (upF t x [] pf bt) outs) : outs = [⟨up j, (n : Int) - j⟩] := by
  have hup : upF t x [] pf bt = 0 := by
    unfold upF
    split
    · rfl
    · rename_i hp
      rw [ltB_eq] at hp
      have hp := of_decide_eq_false hp
      have ha : 0 < a := by
        rcases Nat.eq_zero_or_pos a with rfl | ha
        · have := hT.tre.root x hx; omega
        · exact ha
      obtain ⟨e, he, p, y, _, hy, hyv, het, hmp, _⟩ := hT.gr.edge ha hx
      obtain ⟨i, _, f1, _⟩ := h.edge he
      have : eqB (t.getD x.p.toNat zNd).v.k 1 = true := by
        rw [hmp, Int.toNat_natCast, List.getD_eq_getElem?_getD, hy]
        show eqB y.v.k 1 = true
        rw [hyv, f1, eqB_eq]
        rfl
      rw [this]
      rfl
  rw [hup] at hO
  have hne := h.need hc hn hn0 hT hR
  obtain ⟨b, m, hm1, hm2, _⟩ := h.at_ hc hn hn0 hT (j + 1) (by omega)
  have hm3 : m.v = ⟨1, (j : Int) + 2⟩ := by rw [hm2]; congr 1
  obtain ⟨hb, z, hz, hzv, hmp, hmd⟩ := h.par_up hc hn hn0 hT hm1 (j := j) (by omega) (Nat.zero_le _) hm3
  have hpa : par t b = a := hT.gr.inj hz hx (by rw [hzv, hv])
  rw [hpa] at hmp
  have hob := hne (n - (j + 1) - 1) (j + 1) (by omega) b m hm1 hm2
  have hval : ∀ (m' : Nd) (y : Int), m'.p = (a : Int) → m'.v = ⟨1, (j : Int) + 2⟩ → m'.d = up j → y = (n : Int) - ((j + 1 : Nat) : Int) → out1 a (m', y) = [⟨up j, (n : Int) - j⟩] := by
    intro m' y h1 h2 h3 h4
    unfold out1
    rw [show (notB (eqB m'.p a) || ltB y 0) = false from by rw [notB_eq, eqB_eq, ltB_eq, h1, decide_eq_false (show ¬ y < 0 by omega)]; simp]
    show [(⟨m'.d, _⟩ : Ot)] = _
    rw [show eqB m'.v.k 1 = true from by rw [h2, eqB_eq]; rfl, h3]
    show [(⟨up j, wr .i64 (y + 1)⟩ : Ot)] = _
    rw [wr_i64 (by omega) (by omega), h4]
    congr 2
    omega
  refine one_out hO (fun w hw => ?_) ?_ hu
  · unfold outs0 at hw
    rw [List.flatMap_nil, List.append_nil] at hw
    obtain ⟨⟨m', y⟩, hmy, hw⟩ := List.mem_flatMap.1 hw
    obtain ⟨i, h1, h2⟩ := mem_zip.1 hmy
    by_cases hp : m'.p = a
    · obtain ⟨_, e1, e2⟩ := h.kid hc hn hn0 hT hx (by omega) hv h1 hp
      have : i = b := hT.gr.inj h1 hm1 (by rw [e1, hm3])
      subst this
      rw [hob] at h2
      rw [hval m' y hp e1 e2 (Option.some.inj h2).symm] at hw
      exact List.mem_singleton.1 hw
    · unfold out1 at hw
      rw [show (notB (eqB m'.p a) || ltB y 0) = true from by rw [notB_eq, eqB_eq, show (m'.p == (a : Int)) = false from by simpa using hp]; rfl] at hw
      cases hw
  · unfold outs0
    rw [List.flatMap_nil, List.append_nil]
    refine List.mem_flatMap.2 ⟨(m, (n : Int) - ((j + 1 : Nat) : Int)), mem_zip.2 ⟨b, hm1, hob⟩, ?_⟩
    rw [hval m _ hmp hm3 hmd rfl]
    exact List.mem_singleton.2 rfl
end
end Go.Proofs.Ytmocggibcniggaa.Kt
namespace Go.Proofs.Ytmocggibcniggaa.Kt
open Go Kw Go.Proofs
set_option maxHeartbeats 4000000
set_option maxRecDepth 100000
/-! ### the vertices of a map are distinct -/
/-! ### each network once -/
def LkU (l : List Lk) : Prop := l.Pairwise (fun q q' => q.k = 2 → q'.k = 2 → q.i ≠ q'.i)
/-- What the links so far are like: networks below B j, no pairs if there are none. -/
structure GsU (P : Nat) (B : Nat → Int) (gs : List Ls) : Prop where
  el : ∀ (j : Nat) (x : Ls), gs[j]? = some x → LkU x.lk ∧ (∀ q ∈ x.lk, q.k = 2 → q.i < B j) ∧ ∀ q ∈ x.lk, q.k = 1 → 2 < P
theorem GsU.mono {P : Nat} {B B' : Nat → Int} {gs : List Ls} (h : GsU P B gs) (hB : ∀ j, B j ≤ B' j) : GsU P B' gs := ⟨fun j x hx => by
  obtain ⟨h1, h2, h3⟩ := h.el j x hx
  exact ⟨h1, fun q hq hk => by have := h2 q hq hk; have := hB j; omega, h3⟩⟩
theorem GsU.add {P : Nat} {B B' : Nat → Int} {gs : List Ls} (h : GsU P B gs) (hB : ∀ j, B j ≤ B' j) {a : Nat} {x : Ls} (hx : gs[a]? = some x) {q : Lk} (h2 : q.k = 2 → B a ≤ q.i ∧ q.i < B' a) (h1 : q.k = 1 → 2 < P) : GsU P B' (gs.set a (x.add q)) := ⟨fun j y hy => by
  rcases get_set hy with ⟨rfl, rfl, _⟩ | ⟨_, hy⟩
  · obtain ⟨a1, a2, a3⟩ := h.el a x hx
    refine ⟨?_, fun q' hq' hk => ?_, fun q' hq' hk => ?_⟩
    · show LkU (x.lk ++ [q])
      unfold LkU
      rw [List.pairwise_append]
      refine ⟨a1, List.pairwise_singleton _ _, fun q1 hq1 q2 hq2 k1 k2 => ?_⟩
      rw [List.mem_singleton.1 hq2] at k2 ⊢
      have := a2 q1 hq1 k1
      have := (h2 k2).1
      omega
    · have hq' : q' ∈ x.lk ++ [q] := hq'
      rcases List.mem_append.1 hq' with hq' | hq'
      · have := a2 q' hq' hk
        have := hB a
        omega
      · rw [List.mem_singleton.1 hq'] at hk ⊢
        exact (h2 hk).2
    · have hq' : q' ∈ x.lk ++ [q] := hq'
      rcases List.mem_append.1 hq' with hq' | hq'
      · exact a3 q' hq' hk
      · rw [List.mem_singleton.1 hq'] at hk
        exact h1 hk
  · exact (h.mono hB).el j y hy⟩
theorem Gp.u {k P : Nat} {non : Bool} {i : Nat} {gs : List Ls} (h : Gp k P non i gs) : GsU P (fun _ => 25856) gs := by
  induction h with
  | start =>
    refine ⟨fun j x hx => ?_⟩
    rw [List.getElem?_map] at hx
    cases hr : (List.range k)[j]? with
    | none => rw [hr] at hx; cases hx
    | some z =>
      rw [hr] at hx
      cases hx
      exact ⟨List.Pairwise.nil, fun q hq => (nomatch hq), fun q hq => (nomatch hq)⟩
  | skip _ _ _ ih => exact ih
  | one _ h2 _ _ _ _ h7 h8 _ ih =>
    obtain ⟨q1, _⟩ := h8
    exact ih.add (fun _ => Int.le_refl _) h7 (fun hk => by omega) (fun _ => by omega)
  | two _ h2 _ _ _ _ h7 h8 h9 h10 ih =>
    obtain ⟨q1, _⟩ := h8
    obtain ⟨r1, _⟩ := h10
    exact (ih.add (fun _ => Int.le_refl _) h7 (fun hk => by omega) (fun _ => by omega)).add (fun _ => Int.le_refl _) h9 (fun hk => by omega) (fun _ => by omega)
def bN (i : Nat) : Option (Nat × List Int) → Nat → Int
  | none, _ => 256 * (101 + (i : Int))
  | some (r, _), j => if j < r then 256 * (102 + (i : Int)) else 256 * (101 + (i : Int))
theorem Gn.u {k P Q : Nat} {non : Bool} {i : Nat} {gs ns : List Ls} {o : Option (Nat × List Int)} (h : Gn k P Q non i gs ns o) : GsU P (bN i o) gs := by
  have up : ∀ (i r : Nat) (rt rt' : List Int) (j : Nat), bN i (some (r, rt)) j ≤ bN i (some (r + 1, rt')) j := by
    intro i r rt rt' j
    unfold bN
    simp only
    split <;> split <;> omega
  induction h with
  | start h => exact h.u.mono (fun j => by show (25856 : Int) ≤ 256 * (101 + ((0 : Nat) : Int)); omega)
  | @into i _ _ _ _ _ ih => exact ih.mono (fun j => by unfold bN; simp only; split <;> omega)
  | skip _ _ ih => exact ih.mono (up _ _ _ _)
  | half _ _ _ _ ih => exact ih.mono (up _ _ _ _)
  | @full i _ _ r _ _ q _ _ _ h2 h3 _ ih =>
    obtain ⟨q1, q2, _⟩ := h3
    refine ih.add (up _ _ _ _) h2 (fun _ => ?_) (fun hk => by omega)
    unfold bN
    simp only
    rw [if_neg (by omega), if_pos (by omega)]
    omega
  | @out i _ _ _ _ _ _ _ _ ih => exact ih.mono (fun j => by
      unfold bN
      simp only
      split <;> omega)
theorem Gf.u {k P Q : Nat} {non : Bool} {r : Nat} {gs ns : List Ls} (h : Gf k P Q non r gs ns) : ∃ B, GsU P B gs := by
  induction h with
  | start h => exact ⟨_, h.u⟩
  | stub _ _ h2 h3 ih =>
    obtain ⟨B, ih⟩ := ih
    obtain ⟨q1, _⟩ := h3
    exact ⟨B, ih.add (fun _ => Int.le_refl _) h2 (fun hk => by omega) (fun hk => by omega)⟩
theorem Gf.st {k P Q : Nat} {non : Bool} {r : Nat} {gs ns : List Ls} (h : Gf k P Q non r gs ns) : ∀ (j : Nat) (x : Ls), j < r → gs[j]? = some x → ∃ q ∈ x.lk, q.k = 3 := by
  induction h with
  | start _ => exact fun j x hj => absurd hj (Nat.not_lt_zero _)
  | @stub r _ _ y q _ _ h2 h3 ih =>
    intro j x hj hx
    rcases get_set hx with ⟨rfl, rfl, _⟩ | ⟨hne, hx⟩
    · exact ⟨q, List.mem_append_right _ (List.mem_singleton.2 rfl), h3.1⟩
    · exact ih j x (by omega) hx
section
variable {n : Int} {P Q : Nat} {non : Bool} {l : List Ls}
theorem Mde.rtr (h : Mde n P Q non l) {v : Vt} {x : Ls} (hx : findL l v = some x) (hk : v.k = 1) : LkU x.lk ∧ (∀ q ∈ x.lk, q.k = 1 → 2 < P) ∧ ∃ q ∈ x.lk, q.k = 3 := by
  obtain ⟨k, gs, ns, _, rfl, hf⟩ := h.ex
  obtain ⟨h1, _, h3, _⟩ := find_is hx
  unfold isV at h3
  rw [Bool.or_eq_true, Bool.and_eq_true, Bool.and_eq_true, Bool.and_eq_true] at h3
  rcases List.mem_append.1 h1 with h1 | h1
  · obtain ⟨j, hj⟩ := List.mem_iff_getElem?.1 h1
    have hjl := (List.getElem?_eq_some_iff.1 hj).1
    have hl := hf.g.len
    obtain ⟨B, hB⟩ := hf.u
    obtain ⟨a1, _, a3⟩ := hB.el j x hj
    exact ⟨a1, a3, hf.st j x (by omega) hj⟩
  · exfalso
    obtain ⟨j, hj⟩ := List.mem_iff_getElem?.1 h1
    have e1 := (hf.n.1.el j x hj).1
    have hxk : x.kind = 2 := by rw [e1]
    rcases h3 with ⟨_, a, _⟩ | ⟨a, _⟩
    · have a := of_decide_eq_true a
      omega
    · have a := of_decide_eq_true a
      omega
/-- Which vertices there are. -/
theorem Mde.vert (h : Mde n P Q non l) {r : Int} : (⟨1, r⟩ : Vt) ∈ (mapL l).vs ↔ 1 ≤ r ∧ r ≤ 1 + n % 6 := by
  constructor
  · intro hv
    obtain ⟨y, hy⟩ := Option.isSome_iff_exists.1 (vert_found hv)
    rcases h.find hy with ⟨_, a, b, _⟩ | ⟨a, _⟩
    · exact ⟨a, b⟩
    · cases a
  · rintro ⟨h1, h2⟩
    obtain ⟨k, gs, ns, hk, rfl, hf⟩ := h.ex
    have hl := hf.g.len
    obtain ⟨x, hx⟩ : ∃ x, gs[(r - 1).toNat]? = some x := ⟨_, List.getElem?_eq_getElem (by omega)⟩
    obtain ⟨e1, _⟩ := hf.g.el _ x hx
    refine verts_mem.2 ⟨x, List.mem_append_left _ (List.mem_of_getElem? hx), by rw [e1]; show (0 : Int) < 3600; decide, .inl ⟨by rw [e1], by rw [e1], ?_⟩⟩
    rw [e1]
    show (⟨1, r⟩ : Vt) = ⟨1, (((r - 1).toNat : Nat) : Int) + 1⟩
    congr 1
    omega
theorem Mde.nets (h : Mde n P Q non l) {v : Vt} {x : Ls} (hx : findL l v = some x) (hk : v.k = 2) : x.bits = 24 ∧ v.i % 256 = 0 ∧ 25856 ≤ v.i ∧ v.i ≤ 27648 := by
  obtain ⟨k, gs, ns, _, rfl, hf⟩ := h.ex
  obtain ⟨h1, _, h3, h4⟩ := find_is hx
  unfold isV at h3
  rw [Bool.or_eq_true, Bool.and_eq_true, Bool.and_eq_true, Bool.and_eq_true] at h3
  have hn8 := hf.n.2
  rcases List.mem_append.1 h1 with h1 | h1
  · exfalso
    obtain ⟨j, hj⟩ := List.mem_iff_getElem?.1 h1
    have e1 := (hf.g.el j x hj).1
    have hxk : x.kind = 1 := by rw [e1]
    rcases h3 with ⟨a, _⟩ | ⟨_, a⟩
    · have a := of_decide_eq_true a
      omega
    · have a := of_decide_eq_true a
      omega
  · obtain ⟨j, hj⟩ := List.mem_iff_getElem?.1 h1
    have hjl := (List.getElem?_eq_some_iff.1 hj).1
    have e1 := (hf.n.1.el j x hj).1
    have hxi : x.id = 256 * (101 + (j : Int)) := by rw [e1]
    have hxb : x.bits = 24 := by rw [e1]
    exact ⟨hxb, by omega, by omega, by omega⟩
theorem Mde.sn (h : Mde n P Q non l) : ∀ x ∈ (mapL l).sn, x.v = ⟨2, x.p⟩ ∧ x.b = 24 ∧ x.p % 256 = 0 ∧ 25856 ≤ x.p ∧ x.p ≤ 27648 ∧ x.v ∈ (mapL l).vs := fun x hx => by
  have hx : x ∈ (vertsL l).flatMap (snF l) := hx
  obtain ⟨v, hv, hs⟩ := List.mem_flatMap.1 hx
  unfold snF at hs
  split at hs
  · rename_i hk
    rw [List.mem_singleton] at hs
    have hk2 : v.k = 2 := by rw [eqB_eq] at hk; exact of_decide_eq_true hk
    obtain ⟨y, hy⟩ : ∃ y, findL l v = some y := Option.isSome_iff_exists.1 (vert_found hv)
    rw [hy] at hs
    obtain ⟨b1, b2, b3, b4⟩ := h.nets hy hk2
    have hs : x = ⟨v, netF v.i y.bits, y.bits⟩ := hs
    rw [b1, (in24 (by omega) (by omega) b2).1] at hs
    rw [hs]
    exact ⟨by cases v; simp only [Vt.mk.injEq]; exact ⟨hk2, trivial⟩, rfl, b2, b3, b4, hv⟩
  · cases hs
theorem Mde.sb (h : Mde n P Q non l) : (∀ x ∈ (mapL l).sb, x.p = 256 * (200 + x.r) ∧ x.b = 24 ∧ 1 ≤ x.r ∧ x.r ≤ 1 + n % 6) ∧ ∀ r, 1 ≤ r → r ≤ 1 + n % 6 → ∃ x ∈ (mapL l).sb, x.r = r := by
  have hm : ∀ {i : Int} {q : Lk}, 0 ≤ q.i → q.i ≤ 1000000 → q.i % 256 = 0 → q.k = 3 → q.d = 4294967040 → stF i q = [⟨i, q.i, 24, q.c⟩] := by
    intro i q b2 b3 b4 c1 c2
    unfold stF
    rw [c1, c2, bits24, show (eqB (3 : Int) 3 && leB 0 24) = true from by rw [eqB_eq, leB_eq]; rfl, (in24 b2 b3 b4).1]
  refine ⟨fun x hx => ?_, fun r h1 h2 => ?_⟩
  · have hx : x ∈ (vertsL l).flatMap (sbF l) := hx
    obtain ⟨v, hv, hs⟩ := List.mem_flatMap.1 hx
    unfold sbF at hs
    split at hs
    · cases hs
    · rename_i hk
      have hk1 : v.k = 1 := by
        rcases verts_kind hv with h | h
        · exact h
        · rw [h] at hk
          have : eqB (2 : Int) 2 = true := by rw [eqB_eq]; rfl
          rw [this] at hk; cases hk
      obtain ⟨y, hy⟩ : ∃ y, findL l v = some y := Option.isSome_iff_exists.1 (vert_found hv)
      rw [hy] at hs
      obtain ⟨q, hq, hs⟩ := List.mem_flatMap.1 hs
      have hq : q ∈ y.lk := hq
      rcases h.find hy with ⟨_, a2, a3, _, a5⟩ | ⟨a, _⟩
      · rcases (a5 q hq).kd with ⟨c, _⟩ | ⟨c, _⟩ | ⟨c1, c2, c3⟩
        · unfold stF at hs
          rw [c, show (eqB (1 : Int) 3 && leB 0 (bitsF q.d)) = false from by rw [eqB_eq]; rfl] at hs
          cases hs
        · unfold stF at hs
          rw [c, show (eqB (2 : Int) 3 && leB 0 (bitsF q.d)) = false from by rw [eqB_eq]; rfl] at hs
          cases hs
        · have hn6 : n % 6 ≤ 5 := by omega
          rw [hm (by omega) (by omega) (by omega) c1 c3, List.mem_singleton] at hs
          rw [hs]
          exact ⟨c2, rfl, a2, a3⟩
      · omega
  · obtain ⟨y, hy⟩ : ∃ y, findL l ⟨1, r⟩ = some y := Option.isSome_iff_exists.1 (vert_found (h.vert.2 ⟨h1, h2⟩))
    obtain ⟨_, _, q, hq, hk⟩ := h.rtr hy rfl
    rcases h.find hy with ⟨_, a2, a3, _, a5⟩ | ⟨a, _⟩
    · rcases (a5 q hq).kd with ⟨c, _⟩ | ⟨c, _⟩ | ⟨c1, c2, c3⟩
      · omega
      · omega
      · have c2 : q.i = 256 * (200 + r) := c2
        have hn6 : n % 6 ≤ 5 := by omega
        refine ⟨⟨r, q.i, 24, q.c⟩, List.mem_flatMap.2 ⟨_, h.vert.2 ⟨h1, h2⟩, ?_⟩, rfl⟩
        unfold sbF
        rw [show eqB (⟨1, r⟩ : Vt).k 2 = false from by rw [eqB_eq]; rfl]
        show _ ∈ ((findL l ⟨1, r⟩).getD zLs).lk.flatMap (stF r)
        rw [hy]
        refine List.mem_flatMap.2 ⟨q, hq, ?_⟩
        rw [hm (by omega) (by omega) (by omega) c1 c3]
        exact List.mem_singleton.2 rfl
    · cases a
theorem in24_of {a p : Int} (h0 : 0 ≤ a) (h1 : a ≤ 1000000) (h2 : 0 ≤ p) (h3 : p ≤ 1000000) (h4 : pnetF a 24 = pnetF p 24) : inP a p 24 = true := by
  have ok : ∀ {a : Int}, 0 ≤ a → a ≤ 4294967295 → okA a = true := fun h h' => by
    unfold okA; rw [leB_eq, leB_eq, decide_eq_true h, decide_eq_true h']; rfl
  unfold inP
  rw [ok h0 (by omega), ok h2 (by omega), h4, eqB_eq, leB_eq, leB_eq]
  simp
/-- Whose the source is: a router's stub's. -/
theorem Mde.src_sb (h : Mde n P Q non l) {r : Int} (h1 : 1 ≤ r) (h2 : r ≤ 1 + n % 6) : srcF (256 * (200 + r) + 9) (mapL l) = ⟨⟨1, r⟩, 256 * (200 + r), 24, true⟩ := by
  have hn6 : n % 6 ≤ 5 := by omega
  have e0 := (pnet24 (i := 256 * (200 + r)) (by omega) (by omega) (by omega)).2
  refine src_one rfl (fun x hx hi => ?_) (fun x hx hi => ?_) (.inr ?_)
  · exfalso
    obtain ⟨_, b2, b3, b4, b5, _⟩ := h.sn x hx
    rw [b2] at hi
    have := in_net hi
    rw [e0, (pnet24 (by omega) (by omega) b3).1] at this
    omega
  · obtain ⟨b1, b2, b3, b4⟩ := h.sb.1 x hx
    rw [b2] at hi
    have := in_net hi
    rw [e0, (pnet24 (i := x.p) (by omega) (by omega) (by omega)).1] at this
    rw [b2, show x.r = r by omega, show x.p = 256 * (200 + r) by omega]
  · obtain ⟨x, hx, hr⟩ := h.sb.2 r h1 h2
    obtain ⟨b1, b2, b3, b4⟩ := h.sb.1 x hx
    refine ⟨x, hx, ?_⟩
    rw [b2]
    refine in24_of (by omega) (by omega) (by omega) (by omega) ?_
    rw [e0, (pnet24 (i := x.p) (by omega) (by omega) (by omega)).1]
    omega
end
end Go.Proofs.Ytmocggibcniggaa.Kt
namespace Go.Proofs.Ytmocggibcniggaa.Kt
open Go Kw Go.Proofs
attribute [local irreducible] Kw.GI Kw.GR Kw.FnR Kw.FnX Kw.FnI
set_option maxHeartbeats 16000000
set_option maxRecDepth 100000
abbrev hEt (p b g u : Int) (x : AV) : Option (TypeId × List AV) := some (81, [I p, I b, I g, I u, x])
abbrev avEt (p b g u : Int) (l : List Ot) : AV := .agg [I p, I b, I g, I u, fsOt l]
/-- What Entry answers, where s is the source, t the tree, a the router's place. -/
def EntR (m : Mp) (ms : List Vt) (ps : List Pt) (g : Int) (s : Src) (t : List Nd) : Option Nat → AV → Prop
  | none, r => r = .tup [avEt 0 0 0 0 [], I 7]
  | some a, r => ∃ n o outs, t[a]? = some n ∧ Rch t m.wl ms o ∧ EntO (outs0 t a o ps g) (upF t n ps s.p s.b) outs ∧ r = .tup [avEt s.p s.b g (upF t n ps s.p s.b) outs, I 0]
def entP (s : Src) (t : List Nd) (self : Int) : Option Nat := match s.ok with
  | true => placeL t ⟨1, self⟩
  | false => none
abbrev REnt (m : Mp) (ms : List Vt) (self : Int) (ps : List Pt) (src g : Int) : AV → Hp → Sp → Prop := fun r H S => EntR m ms ps g (srcF src m) (castT m (srcF src m)) (entP (srcF src m) (castT m (srcF src m)) self) r ∧ H = [] ∧ S = []
theorem tre_castT {l : List Ls} (hf : Few l) (s : Src) : Tre (castT (mapL l) s) := by
  unfold castT
  split
  · by_cases hv : s.v ∈ (mapL l).vs
    · exact (tr_of hf hv).tre
    · unfold refTree
      rw [show (mapL l).vs.any (fun x => decide (x = s.v)) = false from ?_]
      · exact tre_nil
      · rw [← Bool.not_eq_true, List.any_eq_true]
        rintro ⟨y, hy, he⟩
        exact hv (of_decide_eq_true he ▸ hy)
  · exact tre_nil
theorem pTr {b : Bool} : ∀ r H1 S1, (r = Bo b ∧ H1 = [] ∧ S1 = []) → stA r = true ∧ StH H1 ∧ StS S1 := by
  rintro r H S ⟨rfl, rfl, rfl⟩
  exact ⟨rfl, StH.nil, stS_nil⟩
theorem Entry_ok (l : List Ls) (hf : Few l) (ms : List Vt) (hms : ms.length < 1000000) (self : Int) (ps : List Pt) (hps : ps.length < 1000000) (hok : ∀ p ∈ ps, PtOk p) (src g : Int) : FnX Try.prog 36 [avMf (mapL l), rsV ms, I self, fsPt ps, I src, I g] [] [] (REnt (mapL l) ms self ps src g) := by
  have hvl : (vertsL l).length ≤ 2000 := map_vs hf
  have hsn : (mapL l).sn.length < 1000000 := by
    have := flat_len (snF_len l) (vertsL l)
    show ((vertsL l).flatMap (snF l)).length < _
    omega
  have hsb : (mapL l).sb.length < 100000000 := by
    have := flat_len (fun v => sbF_len hf v) (vertsL l)
    show ((vertsL l).flatMap (sbF l)).length < _
    omega
  have hwl : (mapL l).wl.length < 1000000 := by
    have := flat_len (fun v => wlF_len l v) (vertsL l)
    show ((vertsL l).flatMap (wlF l)).length < _
    omega
  have hPT := pTreeC_ok l hf src hsn hsb
  have hSr := pSource_ok (mapL l) src hsn hsb
  have hlt : (castT (mapL l) (srcF src (mapL l))).length < 1000000 := by
    unfold castT
    split
    · exact tree_lt hf _
    · exact (by decide : 0 < 1000000)
  have hT0 := tre_castT hf (srcF src (mapL l))
  show FnX _ _ _ _ _ (fun r H S => EntR (mapL l) ms ps g (srcF src (mapL l)) (castT (mapL l) (srcF src (mapL l))) (entP (srcF src (mapL l)) (castT (mapL l) (srcF src (mapL l))) self) r ∧ H = [] ∧ S = [])
  generalize castT (mapL l) (srcF src (mapL l)) = t at hPT hlt hT0 ⊢
  generalize srcF src (mapL l) = s at hSr ⊢
  generalize mapL l = m at hPT hSr hsn hsb hwl ⊢
  refine fnX_intro (T := TT) (n := 161) Try.func36 rfl rfl rfl (fun w X Z Y B => ?_)
  (repeat (first | refine r_end ?_ | (refine r_op ?_; first | refine r_pure hT rfl rfl rfl rfl rfl rfl ?_ | refine r_load hT rfl rfl rfl rfl rfl rfl rfl rfl rfl ?_ | refine r_box rfl rfl rfl rfl rfl rfl rfl rfl rfl ?_ | refine r_alloc hT rfl rfl rfl rfl rfl rfl rfl rfl rfl ?_) | refine gi_seq ?_ | refine gi_plain ?_))
  refine r_call (hSr) rfl rfl rfl rfl rfl rfl rfl rfl Try.func16 rfl rfl rfl pSrc ?_
  rintro r S1 ⟨rfl, rfl⟩
  (repeat (first | refine r_end ?_ | (refine r_op ?_; first | refine r_pure hT rfl rfl rfl rfl rfl rfl ?_ | refine r_load hT rfl rfl rfl rfl rfl rfl rfl rfl rfl ?_ | refine r_store hT rfl rfl rfl rfl rfl rfl rfl rfl rfl rfl ?_ | refine r_alloc hT rfl rfl rfl rfl rfl rfl rfl rfl rfl ?_) | refine gi_seq ?_ | refine gi_plain ?_))
  refine r_callX [] [] (hPT) rfl rfl rfl rfl rfl rfl Try.func18 rfl rfl rfl rfl rfl rfl rfl pNd ?_
  rintro r H1 S1 ⟨rfl, rfl, rfl⟩
  (repeat (first | refine r_end ?_ | (refine r_op ?_; refine r_pure hT rfl rfl rfl rfl rfl rfl ?_) | refine gi_seq ?_))
  refine gi_freeze 0 (L' := t.map Nd.row) rfl rfl ?_
  refine gi_weak (F' := [(18, fsNd t), (15, I s.p), (16, I s.b), (17, Bo s.ok), (6, .box 0 0), (12, .box 1 0), (1, rsV ms), (2, I self), (3, fsPt ps), (5, I g)]) (H' := [hMf m, hEt 0 0 0 0 (.r (.v (.slice none 0 0)))]) (S' := []) ⟨rfl, rfl, rfl, rfl, rfl, rfl, rfl, rfl, rfl, rfl, trivial⟩ ⟨rfl, rfl, trivial⟩ trivial rfl ?_
  (repeat (first | (refine r_op ?_; refine r_pure hT rfl rfl rfl rfl rfl rfl ?_) | refine gi_plain ?_))
  refine r_thaw 41 rfl ?_
  refine r_call (pPlace_ok t ⟨1, self⟩ hlt) rfl rfl rfl rfl rfl rfl rfl rfl Try.func61 rfl rfl rfl pI ?_
  rintro r S1 ⟨rfl, rfl⟩
  (repeat (first | refine r_end ?_ | (refine r_op ?_; refine r_pure hT rfl rfl rfl rfl rfl rfl ?_) | refine gi_seq ?_ | refine gi_plain ?_))
  refine r_case (d := 47) rfl (fun c1 => ?_) (fun c1 => ?_)
  · have hne : entP s t self = none := by unfold entP; rw [notB_eq] at c1; cases hs : s.ok with
      | true => rw [hs] at c1; cases c1
      | false => rfl
    (repeat (first | refine r_end ?_ | (refine r_op ?_; first | refine r_pure hT rfl rfl rfl rfl rfl rfl ?_ | refine r_store hT rfl rfl rfl rfl rfl rfl rfl rfl rfl rfl ?_ | refine r_off rfl rfl rfl rfl rfl ?_) | refine gi_seq ?_ | refine gi_plain ?_ | (refine gi_cnd ?_; first | refine gi_true rfl ?_ | refine gi_false rfl ?_)))
    refine gi_nilH 1 4 2 rfl rfl ?_
    refine gi_retX hT Try.func36 rfl [] [] rfl rfl rfl rfl rfl rfl rfl rfl ?_
    exact ⟨by rw [hne]; rfl, rfl, rfl⟩
  have hpl : entP s t self = placeL t ⟨1, self⟩ := by unfold entP; rw [notB_eq] at c1; cases hs : s.ok with
      | true => rfl
      | false => rw [hs] at c1; cases c1
  rw [hpl]
  (repeat (first | refine r_end ?_ | (refine r_op ?_; refine r_pure hT rfl rfl rfl rfl rfl rfl ?_)))
  cases hp : placeL t ⟨1, self⟩ with
  | none =>
    refine gi_known (d := 50) (b := true) rfl (by rw [ltB_eq]; rfl) ?_
    (repeat (first | refine r_end ?_ | (refine r_op ?_; first | refine r_pure hT rfl rfl rfl rfl rfl rfl ?_ | refine r_store hT rfl rfl rfl rfl rfl rfl rfl rfl rfl rfl ?_) | refine gi_seq ?_ | refine gi_plain ?_ | (refine gi_cnd ?_; first | refine gi_true rfl ?_ | refine gi_false rfl ?_)))
    refine gi_nilH 1 4 2 rfl rfl ?_
    refine gi_retX hT Try.func36 rfl [] [] rfl rfl rfl rfl rfl rfl rfl rfl ?_
    exact ⟨rfl, rfl, rfl⟩
  | some a =>
    obtain ⟨n, hn, hnv⟩ := placeL_some hp
    have hal := (List.getElem?_eq_some_iff.1 hn).1
    refine gi_known (d := 50) (b := false) rfl (by rw [ltB_eq]; exact decide_eq_false (by show ¬ ((a : Nat) : Int) < 0; omega)) ?_
    (repeat (first | refine gi_seq ?_ | refine gi_skip ?_ | (refine gi_cnd ?_; first | refine gi_true rfl ?_ | refine gi_false rfl ?_)))
    refine gi_weak (F' := [(19, I (a : Int)), (18, fsNd t), (15, I s.p), (16, I s.b), (6, .box 0 0), (12, .box 1 0), (1, rsV ms), (3, fsPt ps), (5, I g)]) (H' := [hMf m, hEt 0 0 0 0 (.r (.v (.slice none 0 0)))]) (S' := []) ⟨rfl, rfl, rfl, rfl, rfl, rfl, rfl, rfl, rfl, trivial⟩ ⟨rfl, rfl, trivial⟩ trivial rfl ?_
    (repeat (first | (refine r_op ?_; refine r_pure hT rfl rfl rfl rfl rfl rfl ?_) | refine gi_plain ?_))
    refine r_thaw 55 rfl ?_
    refine r_call (up_ok t hT0 a n hn ps hps s.p s.b) rfl rfl rfl rfl rfl rfl rfl rfl Try.func71 rfl rfl rfl pI ?_
    rintro r S1 ⟨rfl, rfl⟩
    obtain ⟨up, hup⟩ : ∃ up, up = upF t n ps s.p s.b := ⟨_, rfl⟩
    rw [← hup]
    (repeat (first | refine r_end ?_ | (refine r_op ?_; first | refine r_pure hT rfl rfl rfl rfl rfl rfl ?_ | refine r_load hT rfl rfl rfl rfl rfl rfl rfl rfl rfl ?_ | refine r_store hT rfl rfl rfl rfl rfl rfl rfl rfl rfl rfl ?_ | refine r_alloc hT rfl rfl rfl rfl rfl rfl rfl rfl rfl ?_) | refine gi_seq ?_ | refine gi_plain ?_))
    refine r_callX [] [] (pReach_ok t m ms hlt hwl hms) rfl rfl rfl rfl rfl rfl Try.func23 rfl rfl rfl rfl rfl rfl rfl pRch ?_
    rintro r H1 S1 ⟨rfl, rfl, o, rfl, hA⟩
    have hol := hA.lo
    (repeat (first | refine r_end ?_ | (refine r_op ?_; refine r_pure hT rfl rfl rfl rfl rfl rfl ?_) | refine gi_seq ?_ | refine gi_plain_ne 9 rfl ?_))
    refine gi_freeze 0 (L' := o.map nRow) rfl rfl ?_
    refine gi_thaw 21 rfl ?_
    refine gi_thaw 18 rfl ?_
    refine gi_pick [0, 1, 2] [] rfl rfl rfl rfl rfl ?_
    refine gi_adopt (e := 90) (sz := 2) 22 rfl ?_
    refine gi_adoptH (e := 90) (sz := 2) 2 4 rfl rfl ?_
    refine gi_weak (F' := [(22, .sl 0), (21, rsN o), (20, .box 2 0), (19, I (a : Int)), (18, rsNd t), (12, .box 1 0), (3, fsPt ps), (5, I g)]) (H' := [hMf m, hEt 0 0 0 0 (.r (.v (.slice none 0 0))), hEt s.p s.b g up (.sl 1)]) (S' := [eOt [], eOt []]) ⟨rfl, rfl, rfl, rfl, rfl, rfl, rfl, rfl, trivial⟩ ⟨rfl, rfl, rfl, trivial⟩ ⟨rfl, rfl, trivial⟩ rfl ?_
    obtain ⟨Z, hZ⟩ : ∃ Z, Z = t.zip o := ⟨_, rfl⟩
    have hZe : ∀ (i : Nat) (x : Nd) (y : Int), t[i]? = some x → o[i]? = some y → Z[i]? = some (x, y) := fun i x y h1 h2 => by rw [hZ]; exact List.getElem?_zip_eq_some.2 ⟨h1, h2⟩
    have hZt : Z.length = t.length := by rw [hZ, List.length_zip, hol, Nat.min_self]
    have hZl : ∀ j, ((Z.take j).flatMap (out1 a)).length < 1000000 := fun j => by
      have h1 := flat_len (out1_len a) (Z.take j)
      rw [List.length_take] at h1
      omega
    (repeat (first | refine r_end ?_ | (refine r_op ?_; refine r_pure hT rfl rfl rfl rfl rfl rfl ?_) | refine gi_plain ?_ | refine gi_block ?_))
    refine gi_loop (σ := Nat) (fun j => [(68, I (j : Int)), (67, I (t.length : Int)), (66, rsNd t), (22, .sl 0), (21, rsN o), (20, .box 2 0), (19, I (a : Int)), (12, .box 1 0), (3, fsPt ps), (5, I g)]) (fun _ => [hMf m, hEt 0 0 0 0 (.r (.v (.slice none 0 0))), hEt s.p s.b g up (.sl 1)]) (fun j => [eOt ((Z.take j).flatMap (out1 a)), eOt []]) (fun j => j ≤ t.length) (fun j => t.length - j) 0 (Nat.zero_le _) ⟨rfl, by show some (I ((t.map Nd.row).length : Nat)) = _; rw [List.length_map], rfl, rfl, rfl, rfl, rfl, rfl, rfl, rfl, trivial⟩ ⟨rfl, rfl, rfl, trivial⟩ ⟨rfl, rfl, trivial⟩ (fun _ => rfl) (fun j hj next => ?_)
    have hj : j ≤ t.length := hj
    (repeat (first | refine r_end ?_ | (refine r_op ?_; refine r_pure hT rfl rfl rfl rfl rfl rfl ?_) | refine gi_seq ?_ | refine gi_plain ?_))
    refine gi_lt rfl (fun h3 => ?_) (fun h3 => ?_)
    · have hjl : j < t.length := by omega
      obtain ⟨x, hx⟩ : ∃ x, t[j]? = some x := ⟨_, List.getElem?_eq_getElem hjl⟩
      obtain ⟨y, hy⟩ : ∃ y, o[j]? = some y := ⟨_, List.getElem?_eq_getElem (by omega)⟩
      have hst := flat_take (out1 a) (hZe j x y hx hy)
      have hlj := hZl j
      have on : ∀ L, (Z.take j).flatMap (out1 a) ++ out1 a (x, y) = L → ∀ F1 H1 S1, SubF [(68, I (wr .i64 ((j : Int) + 1))), (67, I (t.length : Int)), (66, rsNd t), (22, .sl 0), (21, rsN o), (20, .box 2 0), (19, I (a : Int)), (12, .box 1 0), (3, fsPt ps), (5, I g)] F1 → SubH [hMf m, hEt 0 0 0 0 (.r (.v (.slice none 0 0))), hEt s.p s.b g up (.sl 1)] H1 → SubS [eOt L, eOt []] S1 → GI _ _ F1 H1 S1 := fun L hL F1 H1 S1 hF hH hS => by
        refine next (j + 1) F1 H1 S1 hjl (by omega) ?_ hH ?_
        · rw [wadd1 (by omega)] at hF; exact hF
        · rw [hst, hL]; exact hS
      clear next
      have ho : out1 a (x, y) = out1 a (x, y) := rfl
      conv at ho => rhs; unfold out1
      (repeat (first | (refine r_op ?_; refine r_pure hT rfl rfl rfl rfl rfl rfl ?_) | refine gi_seq ?_ | refine gi_plain ?_ | refine gi_skip ?_ | refine gi_block ?_))
      refine r_idx (row := x.row) hT rfl rfl rfl rfl rfl rfl rfl rfl rfl rfl rfl rfl (nn j) (by simp [hx]) ?_
      (repeat (first | refine r_end ?_ | (refine r_op ?_; first | refine r_pure hT rfl rfl rfl rfl rfl rfl ?_ | refine r_load hT rfl rfl rfl rfl rfl rfl rfl rfl rfl ?_ | refine r_store hT rfl rfl rfl rfl rfl rfl rfl rfl rfl rfl ?_ | refine r_alloc hT rfl rfl rfl rfl rfl rfl rfl rfl rfl ?_) | refine gi_seq ?_ | refine gi_plain ?_))
      refine r_idx (row := nRow y) hT rfl rfl rfl rfl rfl rfl rfl rfl rfl rfl rfl rfl (nn j) (by simp [hy]) ?_
      (repeat (first | refine r_end ?_ | (refine r_op ?_; first | refine r_pure hT rfl rfl rfl rfl rfl rfl ?_ | refine r_load hT rfl rfl rfl rfl rfl rfl rfl rfl rfl ?_) | refine gi_seq ?_ | refine gi_plain ?_ | refine gi_block ?_))
      refine r_case (d := 82) rfl (fun c2 => ?_) (fun c2 => ?_)
      · have ho : out1 a (x, y) = [] := by
          rw [ho]
          show (match notB (eqB x.p a) || ltB y 0 with | true => [] | false => _) = _
          rw [c2]; rfl
        (repeat (first | refine r_end ?_ | (refine r_op ?_; first | refine r_pure hT rfl rfl rfl rfl rfl rfl ?_ | refine r_off rfl rfl rfl rfl rfl ?_) | refine gi_seq ?_ | refine gi_plain ?_ | refine gi_exit rfl ?_ | (refine gi_cnd ?_; first | refine gi_true rfl ?_ | refine gi_false rfl ?_)))
        refine on _ (by rw [ho, List.append_nil]) _ _ _ ⟨rfl, rfl, rfl, rfl, rfl, rfl, rfl, rfl, rfl, rfl, trivial⟩ ⟨rfl, rfl, rfl, trivial⟩ ⟨rfl, rfl, trivial⟩
      (repeat (first | refine r_end ?_ | (refine r_op ?_; refine r_pure hT rfl rfl rfl rfl rfl rfl ?_)))
      refine gi_cond rfl (fun c3 => ?_) (fun c3 => ?_)
      · have ho : out1 a (x, y) = [] := by
          rw [ho]
          show (match notB (eqB x.p a) || ltB y 0 with | true => [] | false => _) = _
          rw [c2, c3]; rfl
        (repeat (first | refine r_end ?_ | (refine r_op ?_; refine r_pure hT rfl rfl rfl rfl rfl rfl ?_) | refine gi_seq ?_ | refine gi_plain ?_ | refine gi_exit rfl ?_))
        refine on _ (by rw [ho, List.append_nil]) _ _ _ ⟨rfl, rfl, rfl, rfl, rfl, rfl, rfl, rfl, rfl, rfl, trivial⟩ ⟨rfl, rfl, rfl, trivial⟩ ⟨rfl, rfl, trivial⟩
      have ho : out1 a (x, y) = [⟨x.d, match eqB x.v.k 1 with | true => wr .i64 (y + 1) | false => y⟩] := by
        rw [ho]
        show (match notB (eqB x.p a) || ltB y 0 with | true => [] | false => _) = _
        rw [c2, c3]; rfl
      (repeat (first | refine r_end ?_ | (refine r_op ?_; first | refine r_pure hT rfl rfl rfl rfl rfl rfl ?_ | refine r_load hT rfl rfl rfl rfl rfl rfl rfl rfl rfl ?_) | refine gi_seq ?_ | refine gi_plain ?_ | refine gi_skip ?_))
      refine gi_cond rfl (fun c4 => ?_) (fun c4 => ?_)
      · have ho : out1 a (x, y) = [⟨x.d, wr .i64 (y + 1)⟩] := by rw [ho, c4]
        (repeat (first | refine r_end ?_ | (refine r_op ?_; first | refine r_pure hT rfl rfl rfl rfl rfl rfl ?_ | refine r_load hT rfl rfl rfl rfl rfl rfl rfl rfl rfl ?_ | refine r_lit hT rfl rfl rfl rfl rfl rfl rfl rfl rfl rfl rfl rfl rfl ?_) | refine gi_seq ?_ | refine gi_plain ?_ | refine gi_inBlock ?_ | refine gi_exit rfl ?_))
        refine r_append hT rfl rfl rfl rfl rfl rfl rfl rfl rfl rfl rfl rfl rfl rfl rfl rfl rfl (by simp only [List.length_cons, List.length_nil, List.length_map, maxLen]; exact ⟨by omega, by show _ * 16 ≤ _; omega⟩) ?_
        (repeat (first | refine r_end ?_ | (refine r_op ?_; refine r_pure hT rfl rfl rfl rfl rfl rfl ?_) | refine gi_plain ?_ | refine gi_inBlock ?_ | refine gi_exit rfl ?_))
        refine on ((Z.take j).flatMap (out1 a) ++ [⟨x.d, wr .i64 (y + 1)⟩]) (by rw [ho]) _ _ _ ⟨rfl, rfl, rfl, rfl, rfl, rfl, rfl, rfl, rfl, rfl, trivial⟩ ⟨rfl, rfl, rfl, trivial⟩ ⟨by rw [eOt, seOt, List.map_append]; rfl, rfl, trivial⟩
      · have ho : out1 a (x, y) = [⟨x.d, y⟩] := by rw [ho, c4]
        (repeat (first | (refine r_op ?_; first | refine r_pure hT rfl rfl rfl rfl rfl rfl ?_ | refine r_load hT rfl rfl rfl rfl rfl rfl rfl rfl rfl ?_ | refine r_lit hT rfl rfl rfl rfl rfl rfl rfl rfl rfl rfl rfl rfl rfl ?_) | refine gi_seq ?_ | refine gi_plain ?_ | refine gi_skip ?_ | refine gi_exit rfl ?_))
        refine r_append hT rfl rfl rfl rfl rfl rfl rfl rfl rfl rfl rfl rfl rfl rfl rfl rfl rfl (by simp only [List.length_cons, List.length_nil, List.length_map, maxLen]; exact ⟨by omega, by show _ * 16 ≤ _; omega⟩) ?_
        (repeat (first | refine r_end ?_ | (refine r_op ?_; refine r_pure hT rfl rfl rfl rfl rfl rfl ?_) | refine gi_plain ?_ | refine gi_inBlock ?_ | refine gi_exit rfl ?_))
        refine on ((Z.take j).flatMap (out1 a) ++ [⟨x.d, y⟩]) (by rw [ho]) _ _ _ ⟨rfl, rfl, rfl, rfl, rfl, rfl, rfl, rfl, rfl, rfl, trivial⟩ ⟨rfl, rfl, rfl, trivial⟩ ⟨by rw [eOt, seOt, List.map_append]; rfl, rfl, trivial⟩
    have hje : j = Z.length := by omega
    subst hje
    rw [List.take_length]
    have hAl := hZl Z.length
    rw [List.take_length] at hAl
    obtain ⟨A, hA0⟩ : ∃ A, A = Z.flatMap (out1 a) := ⟨_, rfl⟩
    rw [← hA0] at hAl ⊢
    clear next hZl hZe
    (repeat (first | refine gi_seq ?_ | refine gi_exit rfl ?_))
    refine gi_weak (F' := [(22, .sl 0), (20, .box 2 0), (12, .box 1 0), (3, fsPt ps), (5, I g)]) (H' := [hMf m, hEt 0 0 0 0 (.r (.v (.slice none 0 0))), hEt s.p s.b g up (.sl 1)]) (S' := [eOt A, eOt []]) ⟨rfl, rfl, rfl, rfl, rfl, trivial⟩ ⟨rfl, rfl, rfl, trivial⟩ ⟨rfl, rfl, trivial⟩ rfl ?_
    (repeat (first | refine r_end ?_ | (refine r_op ?_; refine r_pure hT rfl rfl rfl rfl rfl rfl ?_) | refine gi_plain ?_ | refine gi_block ?_))
    refine gi_thaw 101 rfl ?_
    refine gi_loop (σ := Nat) (fun j => [(103, I (j : Int)), (102, I (ps.length : Int)), (101, rsPt ps), (22, .sl 0), (20, .box 2 0), (12, .box 1 0), (5, I g)]) (fun _ => [hMf m, hEt 0 0 0 0 (.r (.v (.slice none 0 0))), hEt s.p s.b g up (.sl 1)]) (fun j => [eOt (A ++ (ps.take j).flatMap (out2 g)), eOt []]) (fun j => j ≤ ps.length) (fun j => ps.length - j) 0 (Nat.zero_le _) ⟨rfl, by show some (I ((ps.map Pt.row).length : Nat)) = _; rw [List.length_map], rfl, rfl, rfl, rfl, rfl, trivial⟩ ⟨rfl, rfl, rfl, trivial⟩ ⟨by rw [List.take_zero, List.flatMap_nil, List.append_nil], rfl, trivial⟩ (fun _ => rfl) (fun j hj next => ?_)
    have hj : j ≤ ps.length := hj
    have hlp : ∀ j, (A ++ (ps.take j).flatMap (out2 g)).length < 3000000 := fun j => by
      have h1 := flat_len (out2_len g) (ps.take j)
      rw [List.length_take] at h1
      rw [List.length_append]
      omega
    (repeat (first | refine r_end ?_ | (refine r_op ?_; refine r_pure hT rfl rfl rfl rfl rfl rfl ?_) | refine gi_seq ?_ | refine gi_plain ?_))
    refine gi_lt rfl (fun h3 => ?_) (fun h3 => ?_)
    · have hjl : j < ps.length := by omega
      obtain ⟨p, hpj⟩ : ∃ x, ps[j]? = some x := ⟨_, List.getElem?_eq_getElem hjl⟩
      have hpk := hok p (List.mem_of_getElem? hpj)
      have hst := flat_take (out2 g) hpj
      have hlj := hlp j
      have on : ∀ L, A ++ (ps.take j).flatMap (out2 g) ++ out2 g p = L → ∀ F1 H1 S1, SubF [(103, I (wr .i64 ((j : Int) + 1))), (102, I (ps.length : Int)), (101, rsPt ps), (22, .sl 0), (20, .box 2 0), (12, .box 1 0), (5, I g)] F1 → SubH [hMf m, hEt 0 0 0 0 (.r (.v (.slice none 0 0))), hEt s.p s.b g up (.sl 1)] H1 → SubS [eOt L, eOt []] S1 → GI _ _ F1 H1 S1 := fun L hL F1 H1 S1 hF hH hS => by
        refine next (j + 1) F1 H1 S1 hjl (by omega) ?_ hH ?_
        · rw [wadd1 (by omega)] at hF; exact hF
        · rw [hst, ← List.append_assoc, hL]; exact hS
      clear next hlp
      generalize A ++ (ps.take j).flatMap (out2 g) = B at on hlj ⊢
      have ho : out2 g p = out2 g p := rfl
      conv at ho => rhs; unfold out2
      (repeat (first | refine gi_seq ?_ | refine gi_plain ?_ | refine gi_skip ?_ | refine gi_block ?_))
      refine r_idx (row := p.row) hT rfl rfl rfl rfl rfl rfl rfl rfl rfl rfl rfl rfl (nn j) (by simp [hpj]) ?_
      (repeat (first | refine r_end ?_ | (refine r_op ?_; first | refine r_load hT rfl rfl rfl rfl rfl rfl rfl rfl rfl ?_ | refine r_store hT rfl rfl rfl rfl rfl rfl rfl rfl rfl rfl ?_ | refine r_alloc hT rfl rfl rfl rfl rfl rfl rfl rfl rfl ?_) | refine gi_seq ?_ | refine gi_plain ?_))
      refine r_callX [] [] (Transit_ok p hpk) rfl rfl rfl rfl rfl rfl Try.func72 rfl rfl rfl rfl rfl rfl rfl pTr ?_
      rintro r H1 S1 ⟨rfl, rfl, rfl⟩
      (repeat ((refine r_op ?_; refine r_pure hT rfl rfl rfl rfl rfl rfl ?_)))
      refine r_case (d := 110) rfl (fun c2 => ?_) (fun c2 => ?_)
      · rw [c2] at ho
        (repeat ((refine r_op ?_; first | refine r_pure hT rfl rfl rfl rfl rfl rfl ?_ | refine r_load hT rfl rfl rfl rfl rfl rfl rfl rfl rfl ?_)))
        refine r_thaw 112 rfl ?_
        refine r_call (ContainsI_ok p.gs g hpk.2) rfl rfl rfl rfl rfl rfl rfl rfl Try.func54 rfl rfl rfl pB ?_
        rintro r S1 ⟨rfl, rfl⟩
        (repeat (first | refine r_end ?_ | (refine r_op ?_; refine r_pure hT rfl rfl rfl rfl rfl rfl ?_)))
        refine gi_cond rfl (fun c3 => ?_) (fun c3 => ?_)
        · rw [c3] at ho
          have ho : out2 g p = [⟨p.a, 1⟩] := ho
          (repeat (first | (refine r_op ?_; first | refine r_pure hT rfl rfl rfl rfl rfl rfl ?_ | refine r_load hT rfl rfl rfl rfl rfl rfl rfl rfl rfl ?_ | refine r_lit hT rfl rfl rfl rfl rfl rfl rfl rfl rfl rfl rfl rfl rfl ?_) | refine gi_plain ?_))
          refine r_append hT rfl rfl rfl rfl rfl rfl rfl rfl rfl rfl rfl rfl rfl rfl rfl rfl rfl (by simp only [List.length_cons, List.length_nil, List.length_map, maxLen]; exact ⟨by omega, by show _ * 16 ≤ _; omega⟩) ?_
          (repeat (first | refine r_end ?_ | (refine r_op ?_; refine r_pure hT rfl rfl rfl rfl rfl rfl ?_) | refine gi_plain ?_ | refine gi_inBlock ?_))
          refine on (B ++ [⟨p.a, 1⟩]) (by rw [ho]) _ _ _ ⟨rfl, rfl, rfl, rfl, rfl, rfl, rfl, trivial⟩ ⟨rfl, rfl, rfl, trivial⟩ ⟨by rw [eOt, seOt, List.map_append]; rfl, rfl, trivial⟩
        · rw [c3] at ho
          have ho : out2 g p = [] := ho
          (repeat (first | refine r_end ?_ | (refine r_op ?_; refine r_pure hT rfl rfl rfl rfl rfl rfl ?_) | refine gi_plain ?_ | refine gi_skip ?_ | refine gi_inBlock ?_))
          refine on _ (by rw [ho, List.append_nil]) _ _ _ ⟨rfl, rfl, rfl, rfl, rfl, rfl, rfl, trivial⟩ ⟨rfl, rfl, rfl, trivial⟩ ⟨rfl, rfl, trivial⟩
      · rw [c2] at ho
        have ho : out2 g p = [] := ho
        (repeat (first | refine r_end ?_ | (refine r_op ?_; first | refine r_pure hT rfl rfl rfl rfl rfl rfl ?_ | refine r_off rfl rfl rfl rfl rfl ?_) | refine gi_plain ?_ | refine gi_skip ?_ | refine gi_inBlock ?_ | (refine gi_cnd ?_; first | refine gi_true rfl ?_ | refine gi_false rfl ?_)))
        refine on _ (by rw [ho, List.append_nil]) _ _ _ ⟨rfl, rfl, rfl, rfl, rfl, rfl, rfl, trivial⟩ ⟨rfl, rfl, rfl, trivial⟩ ⟨rfl, rfl, trivial⟩
    have hje : j = ps.length := by omega
    subst hje
    rw [List.take_length]
    have hLl := hlp ps.length
    rw [List.take_length] at hLl
    clear next hlp
    have hO0 : outs0 t a o ps g = A ++ ps.flatMap (out2 g) := by unfold outs0; rw [hA0, hZ]
    generalize A ++ ps.flatMap (out2 g) = O at hLl hO0 ⊢
    apply gi_cut (σ := List Ot) (fun _ => [(22, .sl 0), (20, .box 2 0), (12, .box 1 0)]) (fun _ => [hMf m, hEt 0 0 0 0 (.r (.v (.slice none 0 0))), hEt s.p s.b g up (.sl 1)]) (fun L => [eOt L, eOt []]) (fun L => L.Perm O ∧ SrtO L) (fun _ => rfl)
    case first =>
      intro fin
      (repeat (first | refine gi_seq ?_ | refine gi_exit rfl ?_))
      refine gi_weak (F' := [(22, .sl 0), (20, .box 2 0), (12, .box 1 0)]) (H' := [hMf m, hEt 0 0 0 0 (.r (.v (.slice none 0 0))), hEt s.p s.b g up (.sl 1)]) (S' := [eOt O, eOt []]) ⟨rfl, rfl, rfl, trivial⟩ ⟨rfl, rfl, rfl, trivial⟩ ⟨rfl, rfl, trivial⟩ rfl ?_
      (repeat (first | (refine r_op ?_; refine r_pure hT rfl rfl rfl rfl rfl rfl ?_) | refine gi_plain ?_))
      by_cases hne : O = []
      · subst hne
        refine r_call (sort0_ok) rfl rfl rfl rfl rfl rfl rfl rfl Try.func73 rfl rfl rfl pT0 ?_
        rintro r S1 ⟨rfl, rfl⟩
        (repeat (first | refine r_end ?_ | refine gi_seq ?_))
        exact fin [] _ _ _ ⟨List.Perm.refl _, SrtO.nil⟩ ⟨rfl, rfl, rfl, trivial⟩ ⟨rfl, rfl, rfl, trivial⟩ ⟨rfl, rfl, trivial⟩
      refine r_sortO (kn := 0) O rfl (by omega) hne rfl rfl rfl rfl rfl rfl rfl (fun L h1 h2 => ?_)
      (repeat (first | refine r_end ?_ | refine gi_seq ?_))
      exact fin L _ _ _ ⟨h1, h2⟩ ⟨rfl, rfl, rfl, trivial⟩ ⟨rfl, rfl, rfl, trivial⟩ ⟨rfl, rfl, trivial⟩
    case after =>
      intro L hL
      obtain ⟨hL1, hL2⟩ := hL
      have hEn := uq_ent hL1 hL2 up
      have hLl : L.length < 3000000 := by rw [hL1.length_eq]; exact hLl
      rw [← hO0] at hEn
      skip
      refine gi_weak (F' := [(22, .sl 0), (20, .box 2 0), (12, .box 1 0)]) (H' := [hMf m, hEt 0 0 0 0 (.r (.v (.slice none 0 0))), hEt s.p s.b g up (.sl 1)]) (S' := [eOt L, eOt []]) ⟨rfl, rfl, rfl, trivial⟩ ⟨rfl, rfl, rfl, trivial⟩ ⟨rfl, rfl, trivial⟩ rfl ?_
      (repeat (first | refine r_end ?_ | (refine r_op ?_; refine r_pure hT rfl rfl rfl rfl rfl rfl ?_) | refine gi_plain ?_ | refine gi_block ?_))
      refine gi_loop (σ := Nat) (fun j => [(128, I (j : Int)), (127, I (L.length : Int)), (126, .sl 0), (22, .sl 0), (20, .box 2 0), (12, .box 1 0)]) (fun _ => [hMf m, hEt 0 0 0 0 (.r (.v (.slice none 0 0))), hEt s.p s.b g up (.sl 1)]) (fun j => [eOt L, eOt (uqN up L j)]) (fun j => j ≤ L.length) (fun j => L.length - j) 0 (Nat.zero_le _) ⟨rfl, by show some (I ((L.map Ot.row).length : Nat)) = _; rw [List.length_map], rfl, rfl, rfl, rfl, trivial⟩ ⟨rfl, rfl, rfl, trivial⟩ ⟨rfl, rfl, trivial⟩ (fun _ => rfl) (fun j hj next => ?_)
      have hj : j ≤ L.length := hj
      have huq := uqN_len up L j
      (repeat (first | refine r_end ?_ | (refine r_op ?_; refine r_pure hT rfl rfl rfl rfl rfl rfl ?_) | refine gi_seq ?_ | refine gi_plain ?_))
      refine gi_lt rfl (fun h3 => ?_) (fun h3 => ?_)
      · have hjl : j < L.length := by omega
        obtain ⟨x, hx⟩ : ∃ x, L[j]? = some x := ⟨_, List.getElem?_eq_getElem hjl⟩
        have hst := uqN_step (up := up) hx
        have on : ∀ b, kpB up L j x = b → ∀ F1 H1 S1, SubF [(128, I (wr .i64 ((j : Int) + 1))), (127, I (L.length : Int)), (126, .sl 0), (22, .sl 0), (20, .box 2 0), (12, .box 1 0)] F1 → SubH [hMf m, hEt 0 0 0 0 (.r (.v (.slice none 0 0))), hEt s.p s.b g up (.sl 1)] H1 → SubS [eOt L, eOt (uqN up L j ++ (match b with | true => [x] | false => []))] S1 → GI _ _ F1 H1 S1 := fun b hb F1 H1 S1 hF hH hS => by
          refine next (j + 1) F1 H1 S1 hjl (by omega) ?_ hH ?_
          · rw [wadd1 (by omega)] at hF; exact hF
          · rw [hst, hb]; exact hS
        clear next
        have ho : kpB up L j x = kpB up L j x := rfl
        conv at ho => rhs; unfold kpB
        (repeat (first | (refine r_op ?_; refine r_pure hT rfl rfl rfl rfl rfl rfl ?_) | refine gi_seq ?_ | refine gi_plain ?_ | refine gi_skip ?_ | refine gi_block ?_))
        refine r_idxS hT rfl rfl rfl rfl rfl rfl rfl rfl rfl rfl rfl rfl rfl (nn j) (by show j < (L.map Ot.row).length; rw [List.length_map]; exact hjl) ?_
        skip
        refine r_loadS (row := x.row) hT rfl rfl rfl rfl rfl rfl rfl rfl (by show (L.map Ot.row)[j]? = _; rw [List.getElem?_map, hx]; rfl) rfl rfl rfl ?_
        (repeat (first | refine r_end ?_ | (refine r_op ?_; first | refine r_pure hT rfl rfl rfl rfl rfl rfl ?_ | refine r_store hT rfl rfl rfl rfl rfl rfl rfl rfl rfl rfl ?_ | refine r_alloc hT rfl rfl rfl rfl rfl rfl rfl rfl rfl ?_) | refine gi_seq ?_))
        refine gi_drawM [] [(0, .p), (2, .p), (1, .t), (3, .t), (4, .p), (5, .p), (6, .p), (7, .p), (8, .p), (9, .p), (10, .p), (11, .p), (12, .p), (13, .p), (15, .p), (14, .t), (16, .t), (17, .p), (18, .p), (19, .p)] [0, 1, 0, 4, 10, 16, 32, 96, 160, 256, 256, 1280, 2816, 4352, 8448, 256, 33024, 82176, 131360, 262176] [0, 1, 0, 4, 10, 16, 32, 96, 160, 256, 256, 1280, 2816, 4352, 8448, 256, 33024, 82176, 131360, 262176] Kt.hm rfl (by kernel_rfl) (fun w1 K => ?_)
        (repeat ((refine r_op ?_; first | refine r_pure hT rfl rfl rfl rfl rfl rfl ?_ | refine r_load hT rfl rfl rfl rfl rfl rfl rfl rfl rfl ?_)))
        refine r_case (d := 138) rfl (fun c2 => ?_) (fun c2 => ?_)
        · rw [c2] at ho
          (repeat ((refine r_op ?_; refine r_pure hT rfl rfl rfl rfl rfl rfl ?_)))
          refine r_case (d := 141) rfl (fun c3 => ?_) (fun c3 => ?_)
          · rw [c3] at ho
            have ho : kpB up L j x = true := ho
            (repeat (first | refine r_end ?_ | (refine r_op ?_; first | refine r_pure hT rfl rfl rfl rfl rfl rfl ?_ | refine r_load hT rfl rfl rfl rfl rfl rfl rfl rfl rfl ?_ | refine r_off rfl rfl rfl rfl rfl ?_ | refine r_lit hT rfl rfl rfl rfl rfl rfl rfl rfl rfl rfl rfl rfl rfl ?_) | refine gi_plain ?_ | (refine gi_cnd ?_; first | refine gi_true rfl ?_ | refine gi_false rfl ?_)))
            refine r_append hT rfl rfl rfl rfl rfl rfl rfl rfl rfl rfl rfl rfl rfl rfl rfl rfl rfl (by simp only [List.length_cons, List.length_nil, List.length_map, maxLen]; exact ⟨by omega, by show _ * 16 ≤ _; omega⟩) ?_
            (repeat (first | refine r_end ?_ | (refine r_op ?_; first | refine r_pure hT rfl rfl rfl rfl rfl rfl ?_ | refine r_store hT rfl rfl rfl rfl rfl rfl rfl rfl rfl rfl ?_) | refine gi_plain ?_ | refine gi_inBlock ?_))
            refine on true ho _ _ _ ⟨rfl, rfl, rfl, rfl, rfl, rfl, trivial⟩ ⟨rfl, rfl, rfl, trivial⟩ ⟨rfl, by rw [eOt, seOt, List.map_append]; rfl, trivial⟩
          · rw [c3] at ho
            rw [eqB_eq] at c3
            have c3 := of_decide_eq_false c3
            obtain ⟨y, hy⟩ : ∃ x, L[j - 1]? = some x := ⟨_, List.getElem?_eq_getElem (by omega)⟩
            have ho : kpB up L j x = notB (eqB y.a x.a) := by
              rw [ho, List.getD_eq_getElem?_getD, hy]; rfl
            (repeat ((refine r_op ?_; refine r_pure hT rfl rfl rfl rfl rfl rfl ?_)))
            refine r_turn (d := 144) (y := I ((j - 1 : Nat) : Int)) rfl (by rw [wr_i64 (by omega) (by omega)]; congr 3; omega) ?_
            refine r_idxS hT rfl rfl rfl rfl rfl rfl rfl rfl rfl rfl rfl rfl rfl (nn (j - 1)) (by show j - 1 < (L.map Ot.row).length; rw [List.length_map]; omega) ?_
            (repeat ((refine r_op ?_; refine r_pure hT rfl rfl rfl rfl rfl rfl ?_)))
            refine r_loadS (row := y.row) hT rfl rfl rfl rfl rfl rfl rfl rfl (by show (L.map Ot.row)[j - 1]? = _; rw [List.getElem?_map, hy]; rfl) rfl rfl rfl ?_
            (repeat (first | refine r_end ?_ | (refine r_op ?_; first | refine r_pure hT rfl rfl rfl rfl rfl rfl ?_ | refine r_load hT rfl rfl rfl rfl rfl rfl rfl rfl rfl ?_)))
            refine gi_cond rfl (fun c4 => ?_) (fun c4 => ?_)
            · rw [c4] at ho
              (repeat (first | (refine r_op ?_; first | refine r_pure hT rfl rfl rfl rfl rfl rfl ?_ | refine r_load hT rfl rfl rfl rfl rfl rfl rfl rfl rfl ?_ | refine r_lit hT rfl rfl rfl rfl rfl rfl rfl rfl rfl rfl rfl rfl rfl ?_) | refine gi_plain ?_))
              refine r_append hT rfl rfl rfl rfl rfl rfl rfl rfl rfl rfl rfl rfl rfl rfl rfl rfl rfl (by simp only [List.length_cons, List.length_nil, List.length_map, maxLen]; exact ⟨by omega, by show _ * 16 ≤ _; omega⟩) ?_
              (repeat (first | refine r_end ?_ | (refine r_op ?_; first | refine r_pure hT rfl rfl rfl rfl rfl rfl ?_ | refine r_store hT rfl rfl rfl rfl rfl rfl rfl rfl rfl rfl ?_) | refine gi_plain ?_ | refine gi_inBlock ?_))
              refine on true ho _ _ _ ⟨rfl, rfl, rfl, rfl, rfl, rfl, trivial⟩ ⟨rfl, rfl, rfl, trivial⟩ ⟨rfl, by rw [eOt, seOt, List.map_append]; rfl, trivial⟩
            · rw [c4] at ho
              (repeat (first | refine r_end ?_ | (refine r_op ?_; refine r_pure hT rfl rfl rfl rfl rfl rfl ?_) | refine gi_plain ?_ | refine gi_skip ?_ | refine gi_inBlock ?_))
              refine on false ho _ _ _ ⟨rfl, rfl, rfl, rfl, rfl, rfl, trivial⟩ ⟨rfl, rfl, rfl, trivial⟩ ⟨rfl, by simp, trivial⟩
        · rw [c2] at ho
          have ho : kpB up L j x = false := ho
          (repeat (first | refine r_end ?_ | (refine r_op ?_; first | refine r_pure hT rfl rfl rfl rfl rfl rfl ?_ | refine r_off rfl rfl rfl rfl rfl ?_) | refine gi_plain ?_ | refine gi_skip ?_ | refine gi_inBlock ?_ | (refine gi_cnd ?_; first | refine gi_true rfl ?_ | refine gi_false rfl ?_)))
          refine on false ho _ _ _ ⟨rfl, rfl, rfl, rfl, rfl, rfl, trivial⟩ ⟨rfl, rfl, rfl, trivial⟩ ⟨rfl, by simp, trivial⟩
      · have hje : j = L.length := by omega
        subst hje
        generalize uqN up L L.length = U at hEn huq ⊢
        (repeat (first | refine r_end ?_ | (refine r_op ?_; first | refine r_pure hT rfl rfl rfl rfl rfl rfl ?_ | refine r_load hT rfl rfl rfl rfl rfl rfl rfl rfl rfl ?_ | refine r_store hT rfl rfl rfl rfl rfl rfl rfl rfl rfl rfl ?_) | refine gi_seq ?_ | refine gi_plain ?_ | refine gi_exit rfl ?_))
        refine gi_freeze 1 (L' := U.map Ot.row) rfl rfl ?_
        refine gi_retX hT Try.func36 rfl [] [] rfl rfl rfl rfl rfl rfl rfl rfl ?_
        exact ⟨⟨n, o, U, hn, hA, by rw [← hup]; exact hEn, by rw [← hup]⟩, rfl, rfl⟩
end Go.Proofs.Ytmocggibcniggaa.Kt
namespace Go.Proofs.Ytmocggibcniggaa.Kt
open Go Kw Go.Proofs
attribute [local irreducible] Kw.GI Kw.GR Kw.FnR Kw.FnX Kw.FnI
set_option maxHeartbeats 16000000
set_option maxRecDepth 100000
theorem few_nil4 : Few [] := ⟨Nat.zero_le _, fun x h => (nomatch h), fun x h => (nomatch h)⟩
theorem Num_ok (n : Int) : FnR Try.prog 39 [I n] (RI n) := by
  refine fnR_intro (T := TT) (n := 4) Try.func39 rfl rfl rfl (fun w Z => ?_)
  (repeat (first | refine r_end ?_ | (refine r_op ?_; refine r_pure hT rfl rfl rfl rfl rfl rfl ?_) | refine gi_seq ?_ | refine gi_plain ?_))
  refine gi_retW hT Try.func39 rfl rfl [] rfl rfl rfl rfl ?_
  exact ⟨rfl, rfl⟩
theorem stLL_Ot : ∀ (l : List Ot), stLL (l.map Ot.row) = true
  | [] => rfl
  | c :: l => by
    show (stL (Ot.row c) && stLL (l.map Ot.row)) = true
    rw [stLL_Ot l]; rfl
theorem entR_st {m : Mp} {ms : List Vt} {ps : List Pt} {g : Int} {s : Src} {t : List Nd} : ∀ (a : Option Nat) (r : AV), EntR m ms ps g s t a r → ∃ p b g' u l n, r = .tup [avEt p b g' u l, I n]
  | none, _, h => ⟨_, _, _, _, _, _, h⟩
  | some _, _, ⟨_, _, _, _, _, _, h⟩ => ⟨_, _, _, _, _, _, h⟩
theorem pEnt {m : Mp} {ms : List Vt} {self : Int} {ps : List Pt} {src g : Int} : ∀ r H1 S1, REnt m ms self ps src g r H1 S1 → stA r = true ∧ StH H1 ∧ StS S1 := by
  rintro r H S ⟨hr, rfl, rfl⟩
  obtain ⟨p, b, g', u, l, n, rfl⟩ := entR_st _ _ hr
  refine ⟨?_, StH.nil, stS_nil⟩
  show ((true && (true && (true && (true && (stLL (l.map Ot.row) && true))))) && (true && true)) = true
  rw [stLL_Ot]
  rfl
theorem C_mapN {E : Env} {w : World} {u : Value} (h1 : C E w (.agg [nilA, nilA, nilA, nilA, nilA]) u) : C E w (avMf (mapL [])) u := by
  unfold C at h1 ⊢
  obtain ⟨vs, rfl, h3, h4⟩ := h1
  refine ⟨vs, rfl, ?_, h4⟩
  have a1 := CL_setx (x := nilA) (y := .r (.fs 2 [])) (j := 0) (fun u hu => C_nil_fs hu) rfl h3
  have a2 := CL_setx (x := nilA) (y := .r (.fs 6 [])) (j := 1) (fun u hu => C_nil_fs hu) rfl a1
  have a3 := CL_setx (x := nilA) (y := .r (.fs 4 [])) (j := 2) (fun u hu => C_nil_fs hu) rfl a2
  have a4 := CL_setx (x := nilA) (y := .r (.fs 4 [])) (j := 3) (fun u hu => C_nil_fs hu) rfl a3
  exact CL_setx (x := nilA) (y := .r (.fs 1 [])) (j := 4) (fun u hu => C_nil_fs hu) rfl a4
theorem Entry_no (l : List Ls) (hf : Few l) (ms : List Vt) (hms : ms.length < 1000000) (self src g : Int) : FnX Try.prog 36 [avMf (mapL l), rsV ms, I self, nilA, I src, I g] [] [] (REnt (mapL l) ms self [] src g) :=
  fnX_args (Entry_ok l hf ms hms self [] (by decide) (fun p h => (nomatch h)) src g) (fun _ _ _ h => CL_setx (x := nilA) (y := fsPt []) (j := 3) (fun u hu => C_nil_fs hu) rfl h)
theorem Entry_nn (l : List Ls) (hf : Few l) (self src g : Int) : FnX Try.prog 36 [avMf (mapL l), nilA, I self, nilA, I src, I g] [] [] (REnt (mapL l) [] self [] src g) :=
  fnX_args (Entry_no l hf [] (by decide) self src g) (fun _ _ _ h => CL_setx (x := nilA) (y := rsV []) (j := 1) (fun u hu => C_nil_rs hu) rfl h)
theorem Entry_np (l : List Ls) (hf : Few l) (self : Int) (ps : List Pt) (hps : ps.length < 1000000) (hok : ∀ p ∈ ps, PtOk p) (src g : Int) : FnX Try.prog 36 [avMf (mapL l), nilA, I self, fsPt ps, I src, I g] [] [] (REnt (mapL l) [] self ps src g) :=
  fnX_args (Entry_ok l hf [] (by decide) self ps hps hok src g) (fun _ _ _ h => CL_setx (x := nilA) (y := rsV []) (j := 1) (fun u hu => C_nil_rs hu) rfl h)
theorem Entry_nil (self src g : Int) : FnX Try.prog 36 [.agg [nilA, nilA, nilA, nilA, nilA], nilA, I self, nilA, I src, I g] [] [] (REnt (mapL []) [] self [] src g) :=
  fnX_args (Entry_nn [] few_nil4 self src g) (fun _ _ _ h => CL_setx (x := .agg [nilA, nilA, nilA, nilA, nilA]) (y := avMf (mapL [])) (j := 0) (fun u hu => C_mapN hu) rfl h)
theorem ent0 : entP (srcF 51461 (mapL l0)) (castT (mapL l0) (srcF 51461 (mapL l0))) 1 = some 0 := by kernel_rfl
theorem entN : entP (srcF 5 (mapL [])) (castT (mapL []) (srcF 5 (mapL []))) 1 = none := by kernel_rfl
theorem awake24_ok : FnR Try.prog 40 [] (RB true) := by
  refine fnR_intro (T := TT) (n := 41) Try.func40 rfl rfl rfl (fun w Z => ?_)
  (repeat (first | refine r_end ?_ | (refine r_op ?_; refine r_pure hT rfl rfl rfl rfl rfl rfl ?_) | refine gi_seq ?_ | refine gi_plain ?_))
  refine r_callX [] [] (Entry_nil 1 5 7) rfl rfl rfl rfl rfl rfl Try.func36 rfl rfl rfl rfl rfl rfl rfl pEnt ?_
  rintro r H1 S1 ⟨hr, rfl, rfl⟩
  rw [entN] at hr
  obtain rfl := hr
  (repeat (first | refine r_end ?_ | (refine r_op ?_; first | refine r_pure hT rfl rfl rfl rfl rfl rfl ?_ | refine r_store hT rfl rfl rfl rfl rfl rfl rfl rfl rfl rfl ?_ | refine r_alloc hT rfl rfl rfl rfl rfl rfl rfl rfl rfl ?_) | refine gi_seq ?_ | refine gi_plain ?_))
  refine r_callX [] [] (Graph0n) rfl rfl rfl rfl rfl rfl Try.func28 rfl rfl rfl rfl rfl rfl rfl p0G ?_
  rintro r H1 S1 ⟨rfl, rfl, rfl⟩
  refine r_freeze 0 rfl (frz_seO l0) ?_
  skip
  refine r_call (MapF l0 few0) rfl rfl rfl rfl rfl rfl rfl rfl Try.func15 rfl rfl rfl pMapP ?_
  rintro r S1 ⟨rfl, rfl⟩
  (repeat (first | refine r_end ?_ | (refine r_op ?_; first | refine r_store hT rfl rfl rfl rfl rfl rfl rfl rfl rfl rfl ?_ | refine r_alloc hT rfl rfl rfl rfl rfl rfl rfl rfl rfl ?_) | refine gi_seq ?_))
  refine gi_freeze 1 (L' := (mapL l0).vs.map Vt.row) rfl rfl ?_
  refine gi_freeze 2 (L' := (mapL l0).es.map Eg.row) rfl rfl ?_
  refine gi_freeze 3 (L' := (mapL l0).sb.map Sb.row) rfl rfl ?_
  refine gi_freeze 4 (L' := (mapL l0).sn.map Sn.row) rfl rfl ?_
  refine gi_freeze 5 (L' := (mapL l0).wl.map nRow) rfl rfl ?_
  refine gi_weak (F' := [(3, .box 1 0), (2, I 7)]) (H' := [hEt 0 0 0 0 (fsOt []), hMf (mapL l0)]) (S' := []) ⟨rfl, rfl, trivial⟩ ⟨rfl, rfl, trivial⟩ trivial rfl ?_
  (repeat (first | (refine r_op ?_; refine r_load hT rfl rfl rfl rfl rfl rfl rfl rfl rfl ?_) | refine gi_plain ?_))
  refine r_callX [] [] (Entry_nn l0 few0 1 51461 7) rfl rfl rfl rfl rfl rfl Try.func36 rfl rfl rfl rfl rfl rfl rfl pEnt ?_
  rintro r H1 S1 ⟨hr, rfl, rfl⟩
  rw [ent0] at hr
  obtain ⟨n, o, outs, _, _, _, hr⟩ := hr
  rw [src0] at hr
  obtain rfl := hr
  (repeat (first | refine r_end ?_ | (refine r_op ?_; first | refine r_pure hT rfl rfl rfl rfl rfl rfl ?_ | refine r_store hT rfl rfl rfl rfl rfl rfl rfl rfl rfl rfl ?_ | refine r_alloc hT rfl rfl rfl rfl rfl rfl rfl rfl rfl ?_) | refine gi_seq ?_ | refine gi_plain ?_))
  refine r_call (Num_ok 7) rfl rfl rfl rfl rfl rfl rfl rfl Try.func39 rfl rfl rfl pI ?_
  rintro r S1 ⟨rfl, rfl⟩
  (repeat ((refine r_op ?_; refine r_pure hT rfl rfl rfl rfl rfl rfl ?_)))
  refine r_known (d := 21) (b := true) rfl (by rw [eqB_eq]; rfl) ?_
  (repeat ((refine r_op ?_; refine r_pure hT rfl rfl rfl rfl rfl rfl ?_)))
  refine r_call (Num_ok 0) rfl rfl rfl rfl rfl rfl rfl rfl Try.func39 rfl rfl rfl pI ?_
  rintro r S1 ⟨rfl, rfl⟩
  (repeat ((refine r_op ?_; refine r_pure hT rfl rfl rfl rfl rfl rfl ?_)))
  refine r_known (d := 26) (b := true) rfl (by rw [eqB_eq]; rfl) ?_
  (repeat ((refine r_op ?_; first | refine r_pure hT rfl rfl rfl rfl rfl rfl ?_ | refine r_load hT rfl rfl rfl rfl rfl rfl rfl rfl rfl ?_)))
  refine r_known (d := 31) (b := true) rfl (by rw [eqB_eq]; rfl) ?_
  (repeat ((refine r_op ?_; first | refine r_pure hT rfl rfl rfl rfl rfl rfl ?_ | refine r_load hT rfl rfl rfl rfl rfl rfl rfl rfl rfl ?_)))
  refine r_known (d := 36) (b := true) rfl (by rw [eqB_eq]; rfl) ?_
  (repeat (first | refine r_end ?_ | (refine r_op ?_; first | refine r_pure hT rfl rfl rfl rfl rfl rfl ?_ | refine r_load hT rfl rfl rfl rfl rfl rfl rfl rfl rfl ?_)))
  refine gi_retW hT Try.func40 rfl rfl [] rfl rfl rfl rfl ?_
  exact ⟨by rw [eqB_eq]; rfl, rfl⟩
end Go.Proofs.Ytmocggibcniggaa.Kt
namespace Go.Proofs.Ytmocggibcniggaa.Kt
open Go Kw Go.Proofs
attribute [local irreducible] Kw.GI Kw.GR Kw.FnR Kw.FnX Kw.FnI
set_option maxHeartbeats 16000000
set_option maxRecDepth 100000
/-! ### the ports of a router of Graph's -/
def bitF (h r : Int) : Bool := eqB (Go.bits .and .u8 (h.fdiv (2 ^ (min (wr .u64 r).toNat (IntKind.u8).bits))) 1) 1
def grpF (b : Bool) (g : Int) : List Int := match b with
  | true => [g]
  | false => []
def ptF (hb : Bool) (g : Int) (q : Lk) : Pt := match eqB q.k 2 with
  | true => ⟨2, q.d, 24, 0, 0, 3, 0, q.i, 0, [⟨99, q.i, 0, 0, 0, false, 0⟩], []⟩
  | false => (match eqB q.k 3 with
    | true => ⟨2, wr .i64 (q.i + 1), 24, 0, 0, 5, 0, wr .i64 (q.i + 1), 0, [], grpF hb g⟩
    | false => ⟨1, q.d, 32, 0, 0, 1, 0, 0, 0, [], []⟩)
/-- Without its groups. -/
def ptN (q : Lk) : Pt := ptF false 0 q
theorem ptF_g (hb : Bool) (g : Int) (q : Lk) : ptF hb g q = ⟨(ptN q).k, (ptN q).a, (ptN q).b, (ptN q).c, (ptN q).p, (ptN q).s, (ptN q).w, (ptN q).dr, (ptN q).bd, (ptN q).fu, match eqB q.k 3 && hb with | true => [g] | false => []⟩ := by
  have h23 : eqB q.k 2 = true → eqB q.k 3 = false := fun h => by
    rw [eqB_eq] at h ⊢
    have : q.k = 2 := of_decide_eq_true h
    rw [this]; rfl
  unfold ptN ptF
  cases h2 : eqB q.k 2 with
  | true => rw [h23 h2]; rfl
  | false =>
    cases h3 : eqB q.k 3 with
    | true => cases hb <;> rfl
    | false => rfl
abbrev ePt (l : List Pt) : Option SE := some ⟨126, 11, l.map Pt.row, false⟩
abbrev hFc (x : Pt) : Option (TypeId × List AV) := some (123, [I x.k, I x.a, I x.b, I x.c, I x.p, I x.s, I x.w, I x.dr, I x.bd])
abbrev hLkP (q : Lk) : Option (TypeId × List AV) := some (54, [I q.k, I q.i, I q.d, I q.c])
abbrev RPt (ps : List Pt) : AV → Hp → Sp → Prop := fun r H S => r = fsPt ps ∧ H = [] ∧ S = []
theorem stLL_Pt : ∀ (l : List Pt), stLL (l.map Pt.row) = true
  | [] => rfl
  | x :: l => by
    show (stL (Pt.row x) && stLL (l.map Pt.row)) = true
    rw [stLL_Pt l]
    show ((true && (true && (true && (true && (true && (true && (true && (true && (true && (stLL (x.fu.map Nr.row) && (stLL (x.gs.map nRow) && true))))))))))) && true) = true
    rw [stLL_Nr, stLL_N]; rfl
theorem pPts {ps : List Pt} : ∀ r H1 S1, RPt ps r H1 S1 → stA r = true ∧ StH H1 ∧ StS S1 := by
  rintro r H S ⟨rfl, rfl, rfl⟩
  exact ⟨stLL_Pt ps, StH.nil, stS_nil⟩
theorem Ports_ok (l : List Ls) (r : Nat) (hr : r < 1000000) (x : Ls) (hx : l[r]? = some x) (hlk : x.lk.length < 1000000) (g h : Int) : FnX Try.prog 37 [fsL l, I ((r : Int) + 1), I g, u8 h] [] [] (RPt (x.lk.map (ptF (bitF h ((r : Int) + 1)) g))) := by
  obtain ⟨hb, hhb⟩ : ∃ hb, hb = bitF h ((r : Int) + 1) := ⟨_, rfl⟩
  rw [← hhb]
  have hr1 : wr .i64 ((r : Int) + 1 - 1) = (r : Int) := by rw [wr_i64 (by omega) (by omega)]; omega
  refine fnX_intro (T := TT) (n := 82) Try.func37 rfl rfl rfl (fun w X Z Y B => ?_)
  (repeat (first | refine r_end ?_ | (refine r_op ?_; refine r_pure hT rfl rfl rfl rfl rfl rfl ?_) | refine gi_seq ?_ | refine gi_plain ?_ | refine gi_block ?_))
  refine gi_thaw 0 rfl ?_
  refine gi_adopt (e := 126) (sz := 11) 9 rfl ?_
  refine gi_loop (σ := Nat) (fun j => [(10, I (j : Int)), (9, .sl 0), (0, .r (.rs 12 (l.map Ls.row))), (1, I ((r : Int) + 1)), (2, I g), (3, u8 h)]) (fun _ => []) (fun j => [ePt ((x.lk.take j).map (ptF hb g))]) (fun j => j ≤ x.lk.length) (fun j => x.lk.length - j) 0 (Nat.zero_le _) ⟨rfl, rfl, rfl, rfl, rfl, rfl, trivial⟩ trivial ⟨rfl, trivial⟩ (fun _ => rfl) (fun j hj next => ?_)
  have hj : j ≤ x.lk.length := hj
  (repeat (first | (refine r_op ?_; refine r_pure hT rfl rfl rfl rfl rfl rfl ?_) | refine gi_seq ?_ | refine gi_plain ?_))
  refine r_turn (d := 18) (y := I (r : Int)) rfl (by rw [hr1]) ?_
  refine r_idx (row := x.row) hT rfl rfl rfl rfl rfl rfl rfl rfl rfl rfl rfl rfl (nn r) (by simp [hx]) ?_
  (repeat (first | refine r_end ?_ | (refine r_op ?_; first | refine r_pure hT rfl rfl rfl rfl rfl rfl ?_ | refine r_load hT rfl rfl rfl rfl rfl rfl rfl rfl rfl ?_)))
  refine gi_lt (q := ((x.lk.map Lk.row).length : Int)) rfl (fun h3 => ?_) (fun h3 => ?_)
  · rw [List.length_map] at h3
    have hjl : j < x.lk.length := by omega
    obtain ⟨q, hq⟩ : ∃ q, x.lk[j]? = some q := ⟨_, List.getElem?_eq_getElem hjl⟩
    have hst : (x.lk.take (j + 1)).map (ptF hb g) = (x.lk.take j).map (ptF hb g) ++ [ptF hb g q] := by rw [take_snoc hq, List.map_append]; rfl
    have hol : ((x.lk.take j).map (ptF hb g)).length ≤ j := by rw [List.length_map, List.length_take]; omega
    generalize (x.lk.take j).map (ptF hb g) = out at hst hol
    have on : ∀ F1 H1 S1, SubF [(10, I (wr .i64 ((j : Int) + 1))), (9, .sl 0), (0, .r (.rs 12 (l.map Ls.row))), (1, I ((r : Int) + 1)), (2, I g), (3, u8 h)] F1 → SubH [] H1 → SubS [ePt (out ++ [ptF hb g q])] S1 → GI _ _ F1 H1 S1 := fun F1 H1 S1 hF hH hS => by
      refine next (j + 1) F1 H1 S1 hjl (by omega) ?_ hH ?_
      · rw [wadd1 (by omega)] at hF; exact hF
      · rw [hst]; exact hS
    clear next
    (repeat (first | (refine r_op ?_; refine r_pure hT rfl rfl rfl rfl rfl rfl ?_) | refine gi_seq ?_ | refine gi_plain ?_ | refine gi_skip ?_ | refine gi_block ?_))
    refine r_turn (d := 28) (y := I (r : Int)) rfl (by rw [hr1]) ?_
    refine r_idx (row := x.row) hT rfl rfl rfl rfl rfl rfl rfl rfl rfl rfl rfl rfl (nn r) (by simp [hx]) ?_
    (repeat ((refine r_op ?_; first | refine r_pure hT rfl rfl rfl rfl rfl rfl ?_ | refine r_load hT rfl rfl rfl rfl rfl rfl rfl rfl rfl ?_)))
    refine r_thaw 31 rfl ?_
    refine r_idx (row := q.row) hT rfl rfl rfl rfl rfl rfl rfl rfl rfl rfl rfl rfl (nn j) (by simp [hq]) ?_
    (repeat (first | refine r_end ?_ | (refine r_op ?_; first | refine r_pure hT rfl rfl rfl rfl rfl rfl ?_ | refine r_load hT rfl rfl rfl rfl rfl rfl rfl rfl rfl ?_ | refine r_store hT rfl rfl rfl rfl rfl rfl rfl rfl rfl rfl ?_ | refine r_alloc hT rfl rfl rfl rfl rfl rfl rfl rfl rfl ?_) | refine gi_seq ?_ | refine gi_plain_ne 8 rfl ?_))
    apply gi_cut (σ := Unit) (fun _ => [(13, .r (.fs 7 ((ptN q).fu.map Nr.row))), (12, .box 1 0), (11, .box 0 0), (10, I (j : Int)), (9, .sl 0), (0, .r (.rs 12 (l.map Ls.row))), (1, I ((r : Int) + 1)), (2, I g), (3, u8 h)]) (fun _ => [hLkP q, hFc (ptN q)]) (fun _ => [ePt out]) (fun _ => True) (fun _ => rfl)
    case first =>
      intro fin
      have hp : ptN q = ptN q := rfl
      conv at hp => rhs; unfold ptN ptF
      (repeat (first | refine r_end ?_ | (refine r_op ?_; first | refine r_pure hT rfl rfl rfl rfl rfl rfl ?_ | refine r_load hT rfl rfl rfl rfl rfl rfl rfl rfl rfl ?_) | refine gi_seq ?_ | refine gi_plain ?_ | refine gi_block ?_))
      refine gi_cond rfl (fun c1 => ?_) (fun c1 => ?_)
      · have hp : ptN q = ⟨2, q.d, 24, 0, 0, 3, 0, q.i, 0, [⟨99, q.i, 0, 0, 0, false, 0⟩], []⟩ := by rw [hp, c1]
        rw [hp] at fin
        (repeat (first | refine r_end ?_ | (refine r_op ?_; first | refine r_pure hT rfl rfl rfl rfl rfl rfl ?_ | refine r_load hT rfl rfl rfl rfl rfl rfl rfl rfl rfl ?_ | refine r_store hT rfl rfl rfl rfl rfl rfl rfl rfl rfl rfl ?_ | refine r_lit hT rfl rfl rfl rfl rfl rfl rfl rfl rfl rfl rfl rfl rfl ?_) | refine gi_seq ?_ | refine gi_plain_ne 14 rfl ?_ | refine gi_inBlock ?_))
        refine gi_freeze 1 (L' := [(⟨99, q.i, 0, 0, 0, false, 0⟩ : Nr).row]) rfl rfl ?_
        exact fin () _ _ _ trivial ⟨rfl, rfl, rfl, rfl, rfl, rfl, rfl, rfl, rfl, trivial⟩ ⟨rfl, rfl, trivial⟩ ⟨rfl, trivial⟩
      (repeat (first | refine r_end ?_ | (refine r_op ?_; refine r_pure hT rfl rfl rfl rfl rfl rfl ?_) | refine gi_seq ?_ | refine gi_plain ?_))
      refine gi_cond rfl (fun c2 => ?_) (fun c2 => ?_)
      · have hp : ptN q = ⟨2, wr .i64 (q.i + 1), 24, 0, 0, 5, 0, wr .i64 (q.i + 1), 0, [], []⟩ := by rw [hp, c1, c2]; rfl
        rw [hp] at fin
        (repeat (first | refine r_end ?_ | (refine r_op ?_; first | refine r_pure hT rfl rfl rfl rfl rfl rfl ?_ | refine r_load hT rfl rfl rfl rfl rfl rfl rfl rfl rfl ?_ | refine r_store hT rfl rfl rfl rfl rfl rfl rfl rfl rfl rfl ?_) | refine gi_seq ?_ | refine gi_plain_ne 14 rfl ?_ | refine gi_inBlock ?_))
        refine gi_adopt (e := 131) (sz := 7) 13 rfl ?_
        refine gi_freeze 1 (L' := []) rfl rfl ?_
        exact fin () _ _ _ trivial ⟨rfl, rfl, rfl, rfl, rfl, rfl, rfl, rfl, rfl, trivial⟩ ⟨rfl, rfl, trivial⟩ ⟨rfl, trivial⟩
      · have hp : ptN q = ⟨1, q.d, 32, 0, 0, 1, 0, 0, 0, [], []⟩ := by rw [hp, c1, c2]
        rw [hp] at fin
        (repeat (first | refine gi_seq ?_ | refine gi_skip ?_ | refine gi_inBlock ?_))
        refine gi_adopt (e := 131) (sz := 7) 13 rfl ?_
        refine gi_freeze 1 (L' := []) rfl rfl ?_
        exact fin () _ _ _ trivial ⟨rfl, rfl, rfl, rfl, rfl, rfl, rfl, rfl, rfl, trivial⟩ ⟨rfl, rfl, trivial⟩ ⟨rfl, trivial⟩
    case after =>
      intro _ _
      have hg := ptF_g hb g q
      generalize ptN q = p at hg ⊢
      (repeat (first | refine r_end ?_ | (refine r_op ?_; first | refine r_pure hT rfl rfl rfl rfl rfl rfl ?_ | refine r_load hT rfl rfl rfl rfl rfl rfl rfl rfl rfl ?_ | refine r_store hT rfl rfl rfl rfl rfl rfl rfl rfl rfl rfl ?_ | refine r_alloc hT rfl rfl rfl rfl rfl rfl rfl rfl rfl ?_) | refine gi_seq ?_ | refine gi_plain_ne 15 rfl ?_))
      refine gi_nilH 2 10 1 rfl rfl ?_
      (repeat (first | (refine r_op ?_; first | refine r_pure hT rfl rfl rfl rfl rfl rfl ?_ | refine r_load hT rfl rfl rfl rfl rfl rfl rfl rfl rfl ?_) | refine gi_plain ?_))
      refine r_case (d := 66) rfl (fun c1 => ?_) (fun c1 => ?_)
      · rw [c1] at hg
        (repeat ((refine r_op ?_; refine r_pure hT rfl rfl rfl rfl rfl rfl ?_)))
        refine r_shr rfl rfl rfl rfl rfl rfl rfl rfl (by rw [wr_eq]; show 0 ≤ (IntKind.u64).wrap _; rw [IntKind.wrap_u64]; omega) rfl ?_
        (repeat (first | refine r_end ?_ | (refine r_op ?_; refine r_pure hT rfl rfl rfl rfl rfl rfl ?_)))
        refine gi_cond (p := bitF h ((r : Int) + 1)) rfl (fun c2 => ?_) (fun c2 => ?_)
        · rw [hhb, c2] at hg
          have hg : ptF hb g q = ⟨p.k, p.a, p.b, p.c, p.p, p.s, p.w, p.dr, p.bd, p.fu, [g]⟩ := by rw [hhb, c2]; exact hg
          rw [hg] at on
          (repeat (first | refine r_end ?_ | (refine r_op ?_; first | refine r_pure hT rfl rfl rfl rfl rfl rfl ?_ | refine r_store hT rfl rfl rfl rfl rfl rfl rfl rfl rfl rfl ?_ | refine r_lit hT rfl rfl rfl rfl rfl rfl rfl rfl rfl rfl rfl rfl rfl ?_) | refine gi_plain_ne 17 rfl ?_))
          refine gi_freeze 1 (L' := [nRow g]) rfl rfl ?_
          (repeat (first | (refine r_op ?_; first | refine r_pure hT rfl rfl rfl rfl rfl rfl ?_ | refine r_load hT rfl rfl rfl rfl rfl rfl rfl rfl rfl ?_ | refine r_lit hT rfl rfl rfl rfl rfl rfl rfl rfl rfl rfl rfl rfl rfl ?_) | refine gi_plain ?_))
          refine r_append hT rfl rfl rfl rfl rfl rfl rfl rfl rfl rfl rfl rfl rfl rfl rfl rfl rfl (by simp only [List.length_cons, List.length_nil, List.length_map, maxLen]; exact ⟨by omega, by show _ * 120 ≤ _; omega⟩) ?_
          (repeat (first | refine r_end ?_ | (refine r_op ?_; refine r_pure hT rfl rfl rfl rfl rfl rfl ?_) | refine gi_plain ?_ | refine gi_inBlock ?_))
          refine gi_pick [] [0] rfl rfl rfl rfl rfl ?_
          exact on _ _ _ ⟨rfl, rfl, rfl, rfl, rfl, rfl, trivial⟩ trivial ⟨by rw [ePt, List.map_append]; rfl, trivial⟩
        · have hg : ptF hb g q = ⟨p.k, p.a, p.b, p.c, p.p, p.s, p.w, p.dr, p.bd, p.fu, []⟩ := by rw [hg, hhb, c2]; rfl
          rw [hg] at on
          (repeat (first | (refine r_op ?_; first | refine r_pure hT rfl rfl rfl rfl rfl rfl ?_ | refine r_load hT rfl rfl rfl rfl rfl rfl rfl rfl rfl ?_ | refine r_lit hT rfl rfl rfl rfl rfl rfl rfl rfl rfl rfl rfl rfl rfl ?_) | refine gi_plain ?_ | refine gi_skip ?_))
          refine r_append hT rfl rfl rfl rfl rfl rfl rfl rfl rfl rfl rfl rfl rfl rfl rfl rfl rfl (by simp only [List.length_cons, List.length_nil, List.length_map, maxLen]; exact ⟨by omega, by show _ * 120 ≤ _; omega⟩) ?_
          (repeat (first | refine r_end ?_ | (refine r_op ?_; refine r_pure hT rfl rfl rfl rfl rfl rfl ?_) | refine gi_plain ?_ | refine gi_inBlock ?_))
          refine gi_pick [] [0] rfl rfl rfl rfl rfl ?_
          exact on _ _ _ ⟨rfl, rfl, rfl, rfl, rfl, rfl, trivial⟩ trivial ⟨by rw [ePt, List.map_append]; rfl, trivial⟩
      · have hg : ptF hb g q = ⟨p.k, p.a, p.b, p.c, p.p, p.s, p.w, p.dr, p.bd, p.fu, []⟩ := by rw [hg, c1]; rfl
        rw [hg] at on
        (repeat (first | refine r_end ?_ | (refine r_op ?_; first | refine r_pure hT rfl rfl rfl rfl rfl rfl ?_ | refine r_load hT rfl rfl rfl rfl rfl rfl rfl rfl rfl ?_ | refine r_off rfl rfl rfl rfl rfl ?_ | refine r_lit hT rfl rfl rfl rfl rfl rfl rfl rfl rfl rfl rfl rfl rfl ?_) | refine gi_plain ?_ | refine gi_skip ?_ | (refine gi_cnd ?_; first | refine gi_true rfl ?_ | refine gi_false rfl ?_)))
        refine r_append hT rfl rfl rfl rfl rfl rfl rfl rfl rfl rfl rfl rfl rfl rfl rfl rfl rfl (by simp only [List.length_cons, List.length_nil, List.length_map, maxLen]; exact ⟨by omega, by show _ * 120 ≤ _; omega⟩) ?_
        (repeat (first | refine r_end ?_ | (refine r_op ?_; refine r_pure hT rfl rfl rfl rfl rfl rfl ?_) | refine gi_plain ?_ | refine gi_inBlock ?_))
        refine gi_pick [] [0] rfl rfl rfl rfl rfl ?_
        exact on _ _ _ ⟨rfl, rfl, rfl, rfl, rfl, rfl, trivial⟩ trivial ⟨by rw [ePt, List.map_append]; rfl, trivial⟩
  · rw [List.length_map] at h3
    have hje : j = x.lk.length := by omega
    subst hje
    rw [List.take_length]
    (repeat (first | refine r_end ?_ | (refine r_op ?_; refine r_pure hT rfl rfl rfl rfl rfl rfl ?_) | refine gi_seq ?_ | refine gi_plain ?_ | refine gi_exit rfl ?_))
    refine gi_freeze 0 (L' := (x.lk.map (ptF hb g)).map Pt.row) rfl rfl ?_
    refine gi_retX hT Try.func37 rfl [] [] rfl rfl rfl rfl rfl rfl rfl rfl ?_
    exact ⟨rfl, rfl, rfl⟩
end Go.Proofs.Ytmocggibcniggaa.Kt
namespace Go.Proofs.Ytmocggibcniggaa.Kt
open Go Kw Go.Proofs
set_option maxHeartbeats 4000000
set_option maxRecDepth 100000
/-! ### the ports of a router of Graph's: the law -/
theorem and24_mod : (List.range 210).all (fun q => (List.range 256).all (fun c => Nat.beq ((256 * q + c) &&& 4294967040) (256 * q))) = true := by kernel_rfl
theorem pnet_mod {x : Int} (h0 : 0 ≤ x) (h1 : x < 53760) : pnetF x 24 = x - x % 256 := by
  obtain ⟨q, c, hc, hq, rfl⟩ : ∃ q c : Nat, c < 256 ∧ q < 210 ∧ x = (256 * q + c : Nat) := ⟨(x / 256).toNat, (x % 256).toNat, by omega, by omega, by omega⟩
  have e := Nat.eq_of_beq_eq_true (List.all_eq_true.1 (List.all_eq_true.1 and24_mod q (List.mem_range.2 hq)) c (List.mem_range.2 hc))
  unfold pnetF
  have h2 := and_i64 (256 * q + c) 4294967040 (by omega) (by omega)
  rw [e] at h2
  have h2 : Go.bits .and .i64 ((256 * q + c : Nat) : Int) 4294967040 = ((256 * q : Nat) : Int) := h2
  rw [mask24, h2]
  omega
theorem fstA_cases (P : Pt → Bool) (l : List Pt) : (fstA P l = 0 ∧ ∀ p ∈ l, P p = false) ∨ ∃ p ∈ l, P p = true ∧ fstA P l = p.a := by
  unfold fstA
  cases h : l.find? P with
  | none =>
    rw [List.find?_eq_none] at h
    exact .inl ⟨rfl, fun p hp => by simpa using h p hp⟩
  | some p => exact .inr ⟨p, List.mem_of_find?_eq_some h, List.find?_some h, rfl⟩
/-- How an edge of Graph's lies. -/
inductive Ed3 (P : Nat) (e : Eg) : Prop
  | rr (a b : Int) : e.f = ⟨1, a⟩ → e.t = ⟨1, b⟩ → 1000 ≤ e.d → e.d ≤ 2036 → 2 < P → Ed3 P e
  | rn (r N : Int) : e.f = ⟨1, r⟩ → e.t = ⟨2, N⟩ → e.d = N + r → N % 256 = 0 → 25856 ≤ N → N ≤ 27648 → Ed3 P e
  | nr (N r : Int) : e.f = ⟨2, N⟩ → e.t = ⟨1, r⟩ → e.d = N + r → N % 256 = 0 → 25856 ≤ N → N ≤ 27648 → Ed3 P e
section
variable {n : Int} {P Q : Nat} {non : Bool} {l : List Ls}
theorem Mde.ed3 (h : Mde n P Q non l) {e : Eg} (he : e ∈ (mapL l).es) : Ed3 P e := by
  have vt : ∀ {v : Vt} {k : Int}, v.k = k → v = ⟨k, v.i⟩ := fun {v k} hk => by cases v; simp only at hk ⊢; rw [hk]
  cases map_how he with
  | rr x y q h1 h2 h3 h4 h5 h6 h7 =>
    rcases h.find h1 with ⟨a1, _, _, _, a5⟩ | ⟨_, a2, _⟩
    · have hq := a5 q h2
      obtain ⟨_, b2, _⟩ := h.rtr h1 a1
      rcases hq.kd with ⟨c1, _, _, _, c2, c3⟩ | ⟨c1, _⟩ | ⟨c1, _⟩
      · exact .rr _ _ (vt a1) h4 (by omega) (by omega) (b2 q h2 h3)
      · omega
      · omega
    · rw [a2] at h2; cases h2
  | rn x y q h1 h2 h3 h4 h5 h6 h7 h8 =>
    rcases h.find h1 with ⟨a1, _, _, _, a5⟩ | ⟨_, a2, _⟩
    · have hq := a5 q h2
      rcases hq.kd with ⟨c1, _⟩ | ⟨c1, c2, c3, c4, c5⟩ | ⟨c1, _⟩
      · omega
      · exact .rn _ _ (vt a1) h4 (by omega) c3 c4 c5
      · omega
    · rw [a2] at h2; cases h2
  | nr x y q h1 h2 h3 h4 h5 h6 h7 =>
    rcases h.find h1 with ⟨_, _, _, a4, _⟩ | ⟨a1, _⟩
    · rw [a4] at h3; cases h3
    · obtain ⟨_, b2, b3, b4⟩ := h.nets h1 a1
      obtain ⟨_, _, c3, _⟩ := (h.edge he).dn a1
      exact .nr _ _ (vt a1) (vt h2) c3 b2 b3 b4
/-- The list's element of a router. -/
theorem Mde.at_ (h : Mde n P Q non l) {r : Nat} (hr : (r : Int) < 1 + n % 6) : ∃ x, l[r]? = some x ∧ (∀ q ∈ x.lk, LkG (1 + n % 6) ((r : Int) + 1) q) ∧ (∃ q ∈ x.lk, q.k = 3) := by
  obtain ⟨k, gs, ns, hk, rfl, hf⟩ := h.ex
  have hl := hf.g.len
  obtain ⟨x, hx⟩ : ∃ x, gs[r]? = some x := ⟨_, List.getElem?_eq_getElem (by omega)⟩
  refine ⟨x, by rw [List.getElem?_append_left (by omega)]; exact hx, ?_, hf.st r x (by omega) hx⟩
  rw [← hk]
  exact (hf.g.el r x hx).2
def stO (hb : Bool) (r : Int) : List Ot := match hb with
  | true => [⟨256 * (200 + r) + 1, 1⟩]
  | false => []
/-- What a port of a router is like. -/
structure PoG (r : Int) (hb : Bool) (g : Int) (p : Pt) : Prop where
  ok : PtOk p
  kd : (p.b = 32 ∧ 1000 ≤ p.a ∧ p.a ≤ 2036 ∧ out2 g p = []) ∨ (p.b = 24 ∧ out2 g p = [] ∧ ∃ N, p.a = N + r ∧ N % 256 = 0 ∧ 25856 ≤ N ∧ N ≤ 27648) ∨ (p.b = 24 ∧ p.a = 256 * (200 + r) + 1 ∧ out2 g p = stO hb r)
theorem ptF_po {k r : Int} {q : Lk} (hr : 1 ≤ r ∧ r ≤ 6) (hq : LkG k r q) (hb : Bool) (g : Int) : PoG r hb g (ptF hb g q) := by
  rcases hq.kd with ⟨c1, _, _, _, c2, c3⟩ | ⟨c1, c2, c3, c4, c5⟩ | ⟨c1, c2, c3⟩
  · have e : ptF hb g q = ⟨1, q.d, 32, 0, 0, 1, 0, 0, 0, [], []⟩ := by
      unfold ptF
      rw [c1, show eqB (1 : Int) 2 = false from by rw [eqB_eq]; rfl, show eqB (1 : Int) 3 = false from by rw [eqB_eq]; rfl]
    rw [e]
    refine ⟨⟨by show 0 < 1000000; decide, by show 0 < 1000000; decide⟩, .inl ⟨rfl, c2, c3, ?_⟩⟩
    unfold out2
    rw [show (notB (trF ⟨1, q.d, 32, 0, 0, 1, 0, 0, 0, [], []⟩) && ([] : List Int).any (fun x => decide (x = g))) = false from by rw [List.any_nil, Bool.and_false]]
  · have e : ptF hb g q = ⟨2, q.d, 24, 0, 0, 3, 0, q.i, 0, [⟨99, q.i, 0, 0, 0, false, 0⟩], []⟩ := by
      unfold ptF
      rw [c1, show eqB (2 : Int) 2 = true from by rw [eqB_eq]; rfl]
    rw [e]
    refine ⟨⟨by show 1 < 1000000; decide, by show 0 < 1000000; decide⟩, .inr (.inl ⟨rfl, ?_, q.i, c2, c3, c4, c5⟩)⟩
    unfold out2
    rw [show (notB (trF ⟨2, q.d, 24, 0, 0, 3, 0, q.i, 0, [⟨99, q.i, 0, 0, 0, false, 0⟩], []⟩) && ([] : List Int).any (fun x => decide (x = g))) = false from by rw [List.any_nil, Bool.and_false]]
  · have hw : wr .i64 (q.i + 1) = 256 * (200 + r) + 1 := by rw [c2, wr_i64 (by omega) (by omega)]
    have e : ptF hb g q = ⟨2, 256 * (200 + r) + 1, 24, 0, 0, 5, 0, 256 * (200 + r) + 1, 0, [], grpF hb g⟩ := by
      unfold ptF
      rw [c1, show eqB (3 : Int) 2 = false from by rw [eqB_eq]; rfl, show eqB (3 : Int) 3 = true from by rw [eqB_eq]; rfl, hw]
    rw [e]
    refine ⟨⟨by show 0 < 1000000; decide, ?_⟩, .inr (.inr ⟨rfl, rfl, ?_⟩)⟩
    · show (grpF hb g).length < 1000000
      cases hb
      · show 0 < 1000000; decide
      · show 1 < 1000000; decide
    · unfold out2
      have ht : trF ⟨2, 256 * (200 + r) + 1, 24, 0, 0, 5, 0, 256 * (200 + r) + 1, 0, [], grpF hb g⟩ = false := by
        unfold trF
        rw [show eqB (2 : Int) 1 = false from by rw [eqB_eq]; rfl]
        show (match eqB (5 : Int) 5 with | true => ltB 0 (([] : List Nr).length : Int) | false => _) = false
        rw [show eqB (5 : Int) 5 = true from by rw [eqB_eq]; rfl]
        show ltB 0 ((0 : Nat) : Int) = false
        rw [ltB_eq]
        rfl
      rw [ht]
      cases hb
      · show (match notB false && ([] : List Int).any (fun x => decide (x = g)) with | true => [(⟨256 * (200 + r) + 1, 1⟩ : Ot)] | false => []) = []
        rw [List.any_nil, Bool.and_false]
      · show (match notB false && ([g] : List Int).any (fun x => decide (x = g)) with | true => [(⟨256 * (200 + r) + 1, 1⟩ : Ot)] | false => []) = _
        rw [List.any_cons, decide_eq_true rfl, Bool.true_or, notB_eq]
        rfl
/-- The ports of a router, as Ports tells them. -/
structure PsG (r : Int) (hb : Bool) (g : Int) (ps : List Pt) : Prop where
  len : ps.length < 1000000
  po : ∀ p ∈ ps, PoG r hb g p
  st : ∃ p ∈ ps, p.b = 24 ∧ p.a = 256 * (200 + r) + 1 ∧ out2 g p = stO hb r
theorem psG_of {k r : Int} {lk : List Lk} (hl : lk.length < 1000000) (hr : 1 ≤ r ∧ r ≤ 6) (h : ∀ q ∈ lk, LkG k r q) (hs : ∃ q ∈ lk, q.k = 3) (hb : Bool) (g : Int) : PsG r hb g (lk.map (ptF hb g)) := by
  refine ⟨by rw [List.length_map]; exact hl, fun p hp => ?_, ?_⟩
  · obtain ⟨q, hq, rfl⟩ := List.mem_map.1 hp
    exact ptF_po hr (h q hq) hb g
  · obtain ⟨q, hq, hk⟩ := hs
    have hp := ptF_po hr (h q hq) hb g
    refine ⟨_, List.mem_map.2 ⟨q, hq, rfl⟩, ?_⟩
    have hlk := h q hq
    rcases hp.kd with ⟨a, _⟩ | ⟨_, _, N, a, b, c, d⟩ | ⟨a, b, c⟩
    · exfalso
      unfold ptF at a
      rw [hk, show eqB (3 : Int) 2 = false from by rw [eqB_eq]; rfl, show eqB (3 : Int) 3 = true from by rw [eqB_eq]; rfl] at a
      exact absurd a (by show ¬ (24 : Int) = 32; decide)
    · exfalso
      unfold ptF at a
      rw [hk, show eqB (3 : Int) 2 = false from by rw [eqB_eq]; rfl, show eqB (3 : Int) 3 = true from by rw [eqB_eq]; rfl] at a
      have a : wr .i64 (q.i + 1) = N + r := a
      rcases hlk.kd with ⟨c1, _⟩ | ⟨c1, _⟩ | ⟨_, c2, _⟩
      · omega
      · omega
      · rw [c2, wr_i64 (by omega) (by omega)] at a
        omega
    · exact ⟨a, b, c⟩
section
variable {r : Int} {hb : Bool} {g : Int} {ps : List Pt}
/-- The root's own stub. -/
theorem PsG.root (h : PsG r hb g ps) (hr : 1 ≤ r ∧ r ≤ 6) : fstA (upR (256 * (200 + r)) 24) ps = 256 * (200 + r) + 1 := by
  have hR : ∀ p, upR (256 * (200 + r)) 24 p = true ↔ p.b = 24 ∧ pnetF p.a 24 = 256 * (200 + r) := fun p => by
    unfold upR
    rw [Bool.and_eq_true, eqB_eq, eqB_eq]
    simp
  rcases fstA_cases (upR (256 * (200 + r)) 24) ps with ⟨_, h2⟩ | ⟨p, hp, h1, h2⟩
  · exfalso
    obtain ⟨p, hp, a, b, _⟩ := h.st
    have := h2 p hp
    rw [(hR p).2 ⟨a, by rw [b, pnet_mod (by omega) (by omega)]; omega⟩] at this
    cases this
  · rw [h2]
    obtain ⟨a, b⟩ := (hR p).1 h1
    rcases (h.po p hp).kd with ⟨c, _⟩ | ⟨_, _, N, c, d, e, f⟩ | ⟨_, c, _⟩
    · omega
    · rw [c, pnet_mod (by omega) (by omega)] at b
      omega
    · exact c
/-- Another's stub's is not its. -/
theorem PsG.far (h : PsG r hb g ps) (hr : 1 ≤ r ∧ r ≤ 6) {d : Int} (hd : 1000 ≤ d ∧ d ≤ 2036) : portF ps d = 0 ∨ (1000 ≤ portF ps d ∧ portF ps d ≤ 2036) := by
  unfold portF
  rcases fstA_cases (fun p => inP d p.a p.b) ps with ⟨h1, _⟩ | ⟨p, hp, h1, h2⟩
  · exact .inl h1
  · right
    rw [h2]
    have h1 : inP d p.a p.b = true := h1
    rcases (h.po p hp).kd with ⟨_, c, e, _⟩ | ⟨a, _, N, c, e, f, i⟩ | ⟨a, c, _⟩
    · exact ⟨c, e⟩
    · exfalso
      rw [a] at h1
      have := in_net h1
      rw [c, pnet_mod (by omega) (by omega), pnet_mod (by omega) (by omega)] at this
      omega
    · exfalso
      rw [a] at h1
      have := in_net h1
      rw [c, pnet_mod (by omega) (by omega), pnet_mod (by omega) (by omega)] at this
      omega
/-- Where a router must take it from. -/
inductive UpG (t : List Nd) (r up : Int) (x : Nd) (a : Nat) : Prop
  | root : a = 0 → UpG t r up x a
  | rtr (p : Nat) (y : Nd) : p < a → t[p]? = some y → x.p = p → y.v.k = 1 → (up = 0 ∨ (1000 ≤ up ∧ up ≤ 2036)) → UpG t r up x a
  | net (p : Nat) (y : Nd) (N : Int) : p < a → t[p]? = some y → x.p = p → y.v = ⟨2, N⟩ → up = N + r → N % 256 = 0 → 25856 ≤ N → N ≤ 27648 → UpG t r up x a
theorem PsG.up (h : PsG r hb g ps) (hr : 1 ≤ r ∧ r ≤ 6) (hM : Mde n P Q non l) {v : Vt} {t : List Nd} (hT : Tr l v t) {a : Nat} {x : Nd} (hx : t[a]? = some x) (hv : x.v = ⟨1, r⟩) (pf bt : Int) : UpG t r (upF t x ps pf bt) x a ∧ (a = 0 → x.p < 0) ∧ (P ≤ 2 → 0 < a → ∃ (p : Nat) (y : Nd), t[p]? = some y ∧ x.p = p ∧ y.v.k = 2) := by
  rcases Nat.eq_zero_or_pos a with rfl | ha
  · exact ⟨.root rfl, fun _ => by have := hT.tre.root x hx; omega, fun _ h => absurd h (Nat.lt_irrefl _)⟩
  obtain ⟨e, he, p, y, hp, hy, hyv, het, hxp, _, hxd, _⟩ := hT.gr.edge ha hx
  have hU : upF t x ps pf bt = match eqB y.v.k 1 with
      | true => portF ps x.d
      | false => x.d := by
    unfold upF
    rw [show ltB x.p 0 = false from by rw [ltB_eq, hxp]; exact decide_eq_false (by omega), hxp, Int.toNat_natCast, List.getD_eq_getElem?_getD, hy]
    rfl
  rw [hU]
  refine ⟨?_, fun h => by omega, fun hP _ => ?_⟩
  · cases hM.ed3 he with
    | rr a' b' h1 h2 h3 h4 h5 =>
      have hk : y.v.k = 1 := by rw [hyv, h1]
      refine .rtr p y hp hy hxp hk ?_
      rw [hk, show eqB (1 : Int) 1 = true from by rw [eqB_eq]; rfl]
      exact h.far hr (by omega)
    | rn r' N h1 h2 h3 h4 h5 h6 =>
      rw [het, hv] at h2
      cases h2
    | nr N r' h1 h2 h3 h4 h5 h6 =>
      rw [het, hv] at h2
      have hrr : r' = r := (congrArg Vt.i h2).symm
      refine .net p y N hp hy hxp (by rw [hyv, h1]) ?_ h4 h5 h6
      rw [hyv, h1, show eqB (2 : Int) 1 = false from by rw [eqB_eq]; rfl]
      show x.d = N + r
      omega
  · refine ⟨p, y, hy, hxp, ?_⟩
    cases hM.ed3 he with
    | rr a' b' h1 h2 h3 h4 h5 => omega
    | rn r' N h1 h2 h3 h4 h5 h6 =>
      rw [het, hv] at h2
      cases h2
    | nr N r' h1 h2 h3 h4 h5 h6 => rw [hyv, h1]
end
end
end Go.Proofs.Ytmocggibcniggaa.Kt
namespace Go.Proofs.Ytmocggibcniggaa.Kt
open Go Kw Go.Proofs
attribute [local irreducible] Kw.GI Kw.GR Kw.FnR Kw.FnX Kw.FnI
set_option maxHeartbeats 16000000
set_option maxRecDepth 100000
/-! ### what a router of Graph's answers from a stub's address -/
def UpsD (t : List Nd) (r up e : Int) : Prop := (placeL t ⟨1, r⟩ = none ∧ e = 7) ∨ ∃ a x, placeL t ⟨1, r⟩ = some a ∧ t[a]? = some x ∧ e = 0 ∧ (a = 0 → up = 256 * (200 + r) + 1) ∧ (0 < a → ∃ (p : Nat) (y : Nd), t[p]? = some y ∧ x.p = p ∧ inR up y.v.i 24 = true)
theorem ups_law {n : Int} {P Q : Nat} {non : Bool} {l : List Ls} (h : Mde n P Q non l) (hf : Few l) (hP : P ≤ 2) {r R : Int} (hr : 1 ≤ r ∧ r ≤ 1 + n % 6) (hR : 1 ≤ R ∧ R ≤ 1 + n % 6) {hb : Bool} {g : Int} {ps : List Pt} (hps : PsG r hb g ps) {rr : AV} {H : Hp} {S : Sp} (hE : REnt (mapL l) [] r ps (256 * (200 + R) + 9) g rr H S) :
    H = [] ∧ S = [] ∧ ∃ pf bt g' up outs e, rr = .tup [avEt pf bt g' up outs, I e] ∧ UpsD (refTree (mapL l) ⟨1, R⟩) r up e := by
  have hn6 : n % 6 ≤ 5 := by omega
  obtain ⟨hr', rfl, rfl⟩ := hE
  refine ⟨rfl, rfl, ?_⟩
  rw [h.src_sb hR.1 hR.2] at hr'
  have hT := tr_of hf (h.vert.2 hR)
  have hct : castT (mapL l) ⟨⟨1, R⟩, 256 * (200 + R), 24, true⟩ = refTree (mapL l) ⟨1, R⟩ := if_pos rfl
  rw [hct] at hr'
  generalize refTree (mapL l) ⟨1, R⟩ = t at hr' hT ⊢
  have hp : entP ⟨⟨1, R⟩, 256 * (200 + R), 24, true⟩ t r = placeL t ⟨1, r⟩ := rfl
  rw [hp] at hr'
  cases hpl : placeL t ⟨1, r⟩ with
  | none =>
    rw [hpl] at hr'
    exact ⟨_, _, _, _, _, _, hr', .inl ⟨hpl, rfl⟩⟩
  | some a =>
    rw [hpl] at hr'
    obtain ⟨x, o, outs, h1, _, _, h4⟩ := hr'
    obtain ⟨x', hx', hv⟩ := placeL_some hpl
    rw [h1] at hx'
    cases hx'
    obtain ⟨hU, h0, hN⟩ := hps.up ⟨hr.1, by omega⟩ h hT h1 hv (256 * (200 + R)) 24
    refine ⟨_, _, _, _, outs, _, h4, .inr ⟨a, x, hpl, h1, rfl, fun ha => ?_, fun ha => ?_⟩⟩
    · subst ha
      have hx0 := h0 rfl
      have e := hT.hd
      rw [h1] at e
      cases e
      have hrR : R = r := congrArg Vt.i hv
      subst hrR
      unfold upF
      rw [show ltB (rootN ⟨1, R⟩).p 0 = true from by rw [ltB_eq]; exact decide_eq_true hx0]
      exact hps.root ⟨hr.1, by omega⟩
    · obtain ⟨p, y, hy, hxp, hyk⟩ := hN hP ha
      refine ⟨p, y, hy, hxp, ?_⟩
      cases hU with
      | root e => omega
      | rtr p' y' h5 h6 h7 h8 _ =>
        have : p' = p := by omega
        subst this
        rw [hy] at h6
        cases h6
        omega
      | net p' y' N h5 h6 h7 h8 h9 h10 h11 h12 =>
        have : p' = p := by omega
        subst this
        rw [hy] at h6
        cases h6
        have hup : upF t x ps (256 * (200 + R)) 24 = N + r := h9
        show inR (upF t x ps (256 * (200 + R)) 24) y.v.i 24 = true
        rw [in_same, hup, h8]
        show inP (N + r) N 24 = true
        exact in24_of (by omega) (by omega) (by omega) (by omega) (by rw [pnet_mod (by omega) (by omega), pnet_mod (by omega) (by omega)]; omega)
theorem GraphUps (n : Int) (hn : 0 ≤ n ∧ n ≤ 255) (qs : List Int) (hqs : ∀ p ∈ qs, 0 ≤ p ∧ p ≤ 255) : FnX Try.prog 28 [u8 n, nilA, rs8 qs, nilA] [] [] (RGm n 0 qs.length true) :=
  fnX_args (GraphM_ok n hn [] qs (fun p h => (nomatch h)) hqs []) (fun _ _ _ h => CL_setx (x := nilA) (y := rsB []) (j := 3) (fun u hu => C_nil_rs hu) rfl (CL_setx (x := nilA) (y := rs8 []) (j := 1) (fun u hu => C_nil_rs hu) rfl h))
theorem CutUps_ok (n : Int) (hn : 0 ≤ n ∧ n ≤ 255) (qs : List Int) (hqs : ∀ p ∈ qs, 0 ≤ p ∧ p ≤ 255) (b : Int) (hb : 0 ≤ b ∧ b ≤ 255) : FnR Try.prog 11 [u8 n, rs8 qs, u8 b] (RB true) := by
  obtain ⟨k, hk⟩ : ∃ k : Nat, (k : Int) = 1 + n % 6 := ⟨(1 + n % 6).toNat, by omega⟩
  have hk6 : 1 ≤ k ∧ k ≤ 6 := by omega
  obtain ⟨R, hR⟩ : ∃ R : Int, R = 1 + b % (k : Int) := ⟨_, rfl⟩
  have hR1 : 1 ≤ R ∧ R ≤ k := by
    have := Int.emod_nonneg b (show (k : Int) ≠ 0 by omega)
    have := Int.emod_lt_of_pos b (show 0 < (k : Int) by omega)
    omega
  refine fnR_intro (T := TT) (n := 96) Try.func11 rfl rfl rfl (fun w Z => ?_)
  (repeat (first | refine r_end ?_ | (refine r_op ?_; refine r_pure hT rfl rfl rfl rfl rfl rfl ?_) | refine gi_seq ?_ | refine gi_plain ?_))
  refine r_callX [] [] (GraphUps n hn qs hqs) rfl rfl rfl rfl rfl rfl Try.func28 rfl rfl rfl rfl rfl rfl rfl pGm ?_
  rintro r H1 S1 ⟨l, hl, hM, rfl, rfl, rfl⟩
  have hf := hl.few
  have hvl : (vertsL l).length ≤ 2000 := map_vs hf
  have hsn : (mapL l).sn.length ≤ 2000 := by
    have := flat_len (snF_len l) (vertsL l)
    show ((vertsL l).flatMap (snF l)).length ≤ _
    omega
  have hsb : (mapL l).sb.length ≤ 2000000 := by
    have := flat_len (fun v => sbF_len hf v) (vertsL l)
    show ((vertsL l).flatMap (sbF l)).length ≤ _
    omega
  have hRT := rCast_ok l hf (256 * (200 + R) + 9) (by omega) (by omega)
  rw [src_same, hM.src_sb hR1.1 (by omega)] at hRT
  have hct : castT (mapL l) ⟨⟨1, R⟩, 256 * (200 + R), 24, true⟩ = refTree (mapL l) ⟨1, R⟩ := if_pos rfl
  rw [hct] at hRT
  have hlt : (refTree (mapL l) ⟨1, R⟩).length < 1000000 := tree_lt hf _
  have hlaw := fun (r : Int) (hr : 1 ≤ r ∧ r ≤ 1 + n % 6) (ps : List Pt) (hps : PsG r (bitF 0 r) 7 ps) (rr : AV) (H : Hp) (S : Sp) => ups_law hM hf (by decide) hr (show 1 ≤ R ∧ R ≤ 1 + n % 6 by omega) hps (rr := rr) (H := H) (S := S)
  generalize refTree (mapL l) ⟨1, R⟩ = t at hRT hlt hlaw
  refine r_freeze 0 rfl (frz_seO l) ?_
  (repeat (first | refine r_end ?_ | (refine r_op ?_; refine r_pure hT rfl rfl rfl rfl rfl rfl ?_) | refine gi_seq ?_ | refine gi_plain ?_))
  refine r_call (MapF l hf) rfl rfl rfl rfl rfl rfl rfl rfl Try.func15 rfl rfl rfl pMapP ?_
  rintro r S1 ⟨rfl, rfl⟩
  (repeat (first | refine r_end ?_ | (refine r_op ?_; first | refine r_store hT rfl rfl rfl rfl rfl rfl rfl rfl rfl rfl ?_ | refine r_alloc hT rfl rfl rfl rfl rfl rfl rfl rfl rfl ?_) | refine gi_seq ?_))
  refine gi_freeze 1 (L' := (mapL l).vs.map Vt.row) rfl rfl ?_
  refine gi_freeze 2 (L' := (mapL l).es.map Eg.row) rfl rfl ?_
  refine gi_freeze 3 (L' := (mapL l).sb.map Sb.row) rfl rfl ?_
  refine gi_freeze 4 (L' := (mapL l).sn.map Sn.row) rfl rfl ?_
  refine gi_freeze 5 (L' := (mapL l).wl.map nRow) rfl rfl ?_
  refine gi_weak (F' := [(8, .box 0 0), (7, fsL l), (0, u8 n), (2, u8 b)]) (H' := [hMf (mapL l)]) (S' := []) ⟨rfl, rfl, rfl, rfl, trivial⟩ ⟨rfl, trivial⟩ trivial rfl ?_
  (repeat (first | refine r_end ?_ | (refine r_op ?_; refine r_pure hT rfl rfl rfl rfl rfl rfl ?_) | refine gi_seq ?_ | refine gi_plain_ne 4 rfl ?_))
  refine gi_turn (d := 9) (y := I (k : Int)) rfl (by rw [wr_i64 (n := n) (by omega) (by omega), rm_pos hn.1, wr_i64 (by omega) (by omega), hk]) ?_
  (repeat (first | (refine r_op ?_; refine r_pure hT rfl rfl rfl rfl rfl rfl ?_) | refine gi_plain ?_))
  refine r_rem (n := R - 1) (p' := (k : Int)) rfl rfl rfl rfl rfl rfl rfl rfl (by omega) (by rw [wr_i64 (n := b) (by omega) (by omega), rm_pos hb.1]; omega) ?_
  (repeat ((refine r_op ?_; refine r_pure hT rfl rfl rfl rfl rfl rfl ?_)))
  refine r_shl (n := 256 * (200 + R)) rfl rfl rfl rfl rfl rfl rfl rfl (by decide) (by rw [wr_i64 (n := 201 + (R - 1)) (by omega) (by omega)]; show wr .i64 ((201 + (R - 1)) * 256) = _; rw [wr_i64 (by omega) (by omega)]; omega) ?_
  (repeat (first | refine r_end ?_ | (refine r_op ?_; refine r_pure hT rfl rfl rfl rfl rfl rfl ?_) | refine gi_seq ?_))
  refine gi_turn (d := 10) (y := I (256 * (200 + R) + 9)) rfl (by rw [wr_i64 (by omega) (by omega)]) ?_
  (repeat (first | (refine r_op ?_; first | refine r_pure hT rfl rfl rfl rfl rfl rfl ?_ | refine r_load hT rfl rfl rfl rfl rfl rfl rfl rfl rfl ?_) | refine gi_plain ?_))
  refine r_callX [] [] (hRT) rfl rfl rfl rfl rfl rfl Try.func19 rfl rfl rfl rfl rfl rfl rfl pNd ?_
  rintro r H1 S1 ⟨rfl, rfl, rfl⟩
  (repeat (first | refine r_end ?_ | (refine r_op ?_; refine r_pure hT rfl rfl rfl rfl rfl rfl ?_) | refine gi_seq ?_))
  refine gi_freeze 0 (L' := t.map Nd.row) rfl rfl ?_
  refine gi_thaw 11 rfl ?_
  refine gi_weak (F' := [(11, rsNd t), (10, I (256 * (200 + R) + 9)), (9, I (k : Int)), (8, .box 0 0), (7, fsL l)]) (H' := [hMf (mapL l)]) (S' := []) ⟨rfl, rfl, rfl, rfl, rfl, trivial⟩ ⟨rfl, trivial⟩ trivial rfl ?_
  (repeat (first | refine r_end ?_ | (refine r_op ?_; refine r_pure hT rfl rfl rfl rfl rfl rfl ?_) | refine gi_plain ?_ | refine gi_block ?_))
  refine gi_loop (σ := Nat) (fun i => [(12, I ((i : Int) + 1)), (11, rsNd t), (10, I (256 * (200 + R) + 9)), (9, I (k : Int)), (8, .box 0 0), (7, fsL l)]) (fun _ => [hMf (mapL l)]) (fun _ => []) (fun i => i ≤ k) (fun i => k - i) 0 (Nat.zero_le _) ⟨rfl, rfl, rfl, rfl, rfl, rfl, trivial⟩ ⟨rfl, trivial⟩ trivial (fun _ => rfl) (fun i hi next => ?_)
  have hi : i ≤ k := hi
  (repeat (first | refine r_end ?_ | (refine r_op ?_; refine r_pure hT rfl rfl rfl rfl rfl rfl ?_) | refine gi_seq ?_ | refine gi_plain ?_))
  refine gi_le rfl (fun h3 => ?_) (fun h3 => ?_)
  · have hik : i < k := by omega
    obtain ⟨x, hx, hlk, hst⟩ := hM.at_ (r := i) (by omega)
    have hxl : x.lk.length < 1000000 := by
      have := hf.lk x (List.mem_of_getElem? hx)
      omega
    have hpo := Ports_ok l i (by omega) x hx hxl 7 0
    have hps := psG_of hxl (r := (i : Int) + 1) (by omega) hlk hst (bitF 0 ((i : Int) + 1)) 7
    generalize x.lk.map (ptF (bitF 0 ((i : Int) + 1)) 7) = ps at hpo hps
    have hE := hlaw ((i : Int) + 1) (by omega) ps hps
    have on : ∀ F1 H1 S1, SubF [(12, I (wr .i64 ((i : Int) + 1 + 1))), (11, rsNd t), (10, I (256 * (200 + R) + 9)), (9, I (k : Int)), (8, .box 0 0), (7, fsL l)] F1 → SubH [hMf (mapL l)] H1 → SubS [] S1 → GI _ _ F1 H1 S1 := fun F1 H1 S1 hF hH hS => by
      refine next (i + 1) F1 H1 S1 hik (by omega) ?_ hH hS
      rw [wr_i64 (by omega) (by omega), show (i : Int) + 1 + 1 = ((i + 1 : Nat) : Int) + 1 by omega] at hF
      exact hF
    clear next hlaw
    (repeat (first | (refine r_op ?_; refine r_pure hT rfl rfl rfl rfl rfl rfl ?_) | refine gi_seq ?_ | refine gi_plain ?_ | refine gi_skip ?_ | refine gi_block ?_))
    refine r_call (Place_ok t ⟨1, (i : Int) + 1⟩ hlt) rfl rfl rfl rfl rfl rfl rfl rfl Try.func38 rfl rfl rfl pI ?_
    rintro r S1 ⟨rfl, rfl⟩
    (repeat (first | refine r_end ?_ | (refine r_op ?_; refine r_pure hT rfl rfl rfl rfl rfl rfl ?_) | refine gi_seq ?_))
    refine gi_weak (F' := [(13, I (placeI (placeL t ⟨1, (i : Int) + 1⟩))), (12, I ((i : Int) + 1)), (11, rsNd t), (10, I (256 * (200 + R) + 9)), (9, I (k : Int)), (8, .box 0 0), (7, fsL l)]) (H' := [hMf (mapL l)]) (S' := []) ⟨rfl, rfl, rfl, rfl, rfl, rfl, rfl, trivial⟩ ⟨rfl, trivial⟩ trivial rfl ?_
    apply gi_cut (σ := Int × Int × Int × Int × List Ot × Int) (fun s => [(15, I s.2.2.2.2.2), (14, .box 1 0), (13, I (placeI (placeL t ⟨1, (i : Int) + 1⟩))), (12, I ((i : Int) + 1)), (11, rsNd t), (10, I (256 * (200 + R) + 9)), (9, I (k : Int)), (8, .box 0 0), (7, fsL l)]) (fun s => [hMf (mapL l), hEt s.1 s.2.1 s.2.2.1 s.2.2.2.1 (fsOt s.2.2.2.2.1)]) (fun _ => []) (fun s => UpsD t ((i : Int) + 1) s.2.2.2.1 s.2.2.2.2.2) (fun _ => rfl)
    case first =>
      intro fin
      refine gi_drawT 1 false 13 [11] [(1, .p), (2, .p), (3, .p), (5, .p), (0, .t)] (.alt [(4, .o)] (.alt [(6, .o), (7, .p), (8, .p), (9, .p), (10, .o), (11, .l), (12, .p)] .it [(10, .o), (6, .o), (7, .p), (8, .p), (9, .p), (11, .l), (12, .p)] .it) [(10, .o), (4, .o), (6, .o), (7, .p), (8, .p), (9, .p), (11, .l), (12, .p)] .it) Kt.hm rfl (by kernel_rfl) (fun w1 K => ?_)
      (repeat ((refine r_op ?_; first | refine r_pure hT rfl rfl rfl rfl rfl rfl ?_ | refine r_load hT rfl rfl rfl rfl rfl rfl rfl rfl rfl ?_)))
      refine r_alt ?_ ?_
      · refine r_callXz [] [] (hpo) rfl rfl rfl rfl rfl rfl Try.func37 rfl rfl rfl rfl rfl rfl rfl rfl rfl rfl rfl pPts ?_
        rintro r H1 S1 ⟨rfl, rfl, rfl⟩
        skip
        refine r_alt ?_ ?_
        · refine r_callXz [] [] (Entry_np l hf ((i : Int) + 1) ps hps.len (fun p hp => (hps.po p hp).ok) (256 * (200 + R) + 9) 7) rfl rfl rfl rfl rfl rfl Try.func36 rfl rfl rfl rfl rfl rfl rfl rfl rfl rfl rfl pEnt ?_
          intro r H1 S1 hr
          obtain ⟨rfl, rfl, pf, bt, g', up, outs, e, rfl, hD⟩ := hE r H1 S1 hr
          (repeat (first | refine r_end ?_ | (refine r_op ?_; first | refine r_pure hT rfl rfl rfl rfl rfl rfl ?_ | refine r_store hT rfl rfl rfl rfl rfl rfl rfl rfl rfl rfl ?_ | refine r_alloc hT rfl rfl rfl rfl rfl rfl rfl rfl rfl ?_) | refine gi_seq ?_))
          exact fin (pf, bt, g', up, outs, e) _ _ _ hD ⟨rfl, rfl, rfl, rfl, rfl, rfl, rfl, rfl, rfl, trivial⟩ ⟨rfl, rfl, trivial⟩ trivial
        · (repeat ((refine r_op ?_; refine r_alloc hT rfl rfl rfl rfl rfl rfl rfl rfl rfl ?_)))
          refine r_callXz [] [] (Entry_np l hf ((i : Int) + 1) ps hps.len (fun p hp => (hps.po p hp).ok) (256 * (200 + R) + 9) 7) rfl rfl rfl rfl rfl rfl Try.func36 rfl rfl rfl rfl rfl rfl rfl rfl rfl rfl rfl pEnt ?_
          intro r H1 S1 hr
          obtain ⟨rfl, rfl, pf, bt, g', up, outs, e, rfl, hD⟩ := hE r H1 S1 hr
          (repeat (first | refine r_end ?_ | (refine r_op ?_; first | refine r_pure hT rfl rfl rfl rfl rfl rfl ?_ | refine r_store hT rfl rfl rfl rfl rfl rfl rfl rfl rfl rfl ?_) | refine gi_seq ?_))
          exact fin (pf, bt, g', up, outs, e) _ _ _ hD ⟨rfl, rfl, rfl, rfl, rfl, rfl, rfl, rfl, rfl, trivial⟩ ⟨rfl, rfl, trivial⟩ trivial
      · (repeat ((refine r_op ?_; refine r_alloc hT rfl rfl rfl rfl rfl rfl rfl rfl rfl ?_)))
        refine r_callXz [] [] (hpo) rfl rfl rfl rfl rfl rfl Try.func37 rfl rfl rfl rfl rfl rfl rfl rfl rfl rfl rfl pPts ?_
        rintro r H1 S1 ⟨rfl, rfl, rfl⟩
        skip
        refine r_callXz [] [] (Entry_np l hf ((i : Int) + 1) ps hps.len (fun p hp => (hps.po p hp).ok) (256 * (200 + R) + 9) 7) rfl rfl rfl rfl rfl rfl Try.func36 rfl rfl rfl rfl rfl rfl rfl rfl rfl rfl rfl pEnt ?_
        intro r H1 S1 hr
        obtain ⟨rfl, rfl, pf, bt, g', up, outs, e, rfl, hD⟩ := hE r H1 S1 hr
        (repeat (first | refine r_end ?_ | (refine r_op ?_; first | refine r_pure hT rfl rfl rfl rfl rfl rfl ?_ | refine r_store hT rfl rfl rfl rfl rfl rfl rfl rfl rfl rfl ?_) | refine gi_seq ?_))
        exact fin (pf, bt, g', up, outs, e) _ _ _ hD ⟨rfl, rfl, rfl, rfl, rfl, rfl, rfl, rfl, rfl, trivial⟩ ⟨rfl, rfl, trivial⟩ trivial
    case after =>
      rintro ⟨pf, bt, g', up, outs, e⟩ hD
      have hD : UpsD t ((i : Int) + 1) up e := hD
      (repeat (first | refine r_end ?_ | (refine r_op ?_; refine r_pure hT rfl rfl rfl rfl rfl rfl ?_) | refine gi_plain ?_))
      unfold UpsD at hD
      cases hp : placeL t ⟨1, (i : Int) + 1⟩ with
      | none =>
        rcases hD with ⟨_, rfl⟩ | ⟨a, x, h1, _⟩
        · refine gi_known (d := 55) (b := true) rfl (by rw [ltB_eq]; rfl) ?_
          (repeat (first | (refine r_op ?_; refine r_pure hT rfl rfl rfl rfl rfl rfl ?_) | refine gi_seq ?_ | refine gi_plain ?_ | (refine gi_cnd ?_; first | refine gi_true rfl ?_ | refine gi_false rfl ?_)))
          refine r_call (Num_ok 7) rfl rfl rfl rfl rfl rfl rfl rfl Try.func39 rfl rfl rfl pI ?_
          rintro r S1 ⟨rfl, rfl⟩
          (repeat (first | refine r_end ?_ | (refine r_op ?_; refine r_pure hT rfl rfl rfl rfl rfl rfl ?_)))
          refine gi_known (d := 58) (b := false) rfl (by rw [notB_eq, eqB_eq]; rfl) ?_
          (repeat (first | refine r_end ?_ | (refine r_op ?_; refine r_pure hT rfl rfl rfl rfl rfl rfl ?_) | refine gi_plain ?_ | refine gi_skip ?_ | refine gi_exit rfl ?_ | (refine gi_cnd ?_; first | refine gi_true rfl ?_ | refine gi_false rfl ?_)))
          exact on _ _ _ ⟨rfl, rfl, rfl, rfl, rfl, rfl, trivial⟩ ⟨rfl, trivial⟩ trivial
        · rw [hp] at h1; cases h1
      | some a =>
        rcases hD with ⟨h1, _⟩ | ⟨a', x, h1, hxa, rfl, h0, hP⟩
        · rw [hp] at h1; cases h1
        rw [hp] at h1
        cases h1
        refine gi_known (d := 55) (b := false) rfl (by rw [ltB_eq]; exact decide_eq_false (by show ¬ ((a : Nat) : Int) < 0; omega)) ?_
        (repeat (first | refine gi_seq ?_ | refine gi_skip ?_ | (refine gi_cnd ?_; first | refine gi_true rfl ?_ | refine gi_false rfl ?_)))
        refine gi_weak (F' := [(15, I 0), (14, .box 1 0), (13, I (a : Int)), (12, I ((i : Int) + 1)), (11, rsNd t), (10, I (256 * (200 + R) + 9)), (9, I (k : Int)), (8, .box 0 0), (7, fsL l)]) (H' := [hMf (mapL l), hEt pf bt g' up (fsOt outs)]) (S' := []) ⟨rfl, rfl, rfl, rfl, rfl, rfl, rfl, rfl, rfl, trivial⟩ ⟨rfl, rfl, trivial⟩ trivial rfl ?_
        refine gi_drawM [] [(0, .p), (1, .o), (2, .p), (3, .p), (4, .p), (5, .p), (6, .p), (7, .p), (9, .p), (10, .p), (11, .p), (12, .p), (8, .t), (13, .p), (14, .p), (15, .p), (16, .p), (17, .p), (18, .p), (19, .p), (20, .p), (22, .p), (23, .p), (24, .p), (25, .p), (26, .p), (21, .t), (27, .t), (28, .p), (29, .p), (30, .p), (31, .t), (32, .o), (33, .p), (34, .p), (35, .p)] [0, 1, 2, 6, 8, 24, 40, 64, 192, 64, 576, 1088, 2112, 4416, 8264, 16392, 32832, 65536, 196608, 327680, 524288, 1572864, 524288, 524288, 524288, 25690112, 34078720, 67633152, 138936320, 268959744, 537395200, 1074266112, 2150105088, 4295491584, 8590524416, 17179934720] [0, 1, 2, 4, 8, 24, 40, 64, 192, 64, 576, 1088, 2112, 4416, 8264, 16392, 32768, 65536, 196608, 327680, 524288, 1572864, 524288, 524288, 524288, 25690112, 34078720, 67633152, 138936320, 268959744, 537395200, 1074266112, 2150105088, 4295491584, 8590524416, 17179934720] Kt.hm rfl (by kernel_rfl) (fun w1 K => ?_)
        (repeat ((refine r_op ?_; refine r_pure hT rfl rfl rfl rfl rfl rfl ?_)))
        refine r_call (Num_ok 0) rfl rfl rfl rfl rfl rfl rfl rfl Try.func39 rfl rfl rfl pI ?_
        rintro r S1 ⟨rfl, rfl⟩
        (repeat ((refine r_op ?_; refine r_pure hT rfl rfl rfl rfl rfl rfl ?_)))
        refine r_known (d := 62) (b := false) rfl (by rw [notB_eq, eqB_eq]; rfl) ?_
        (repeat ((refine r_op ?_; refine r_pure hT rfl rfl rfl rfl rfl rfl ?_)))
        rcases Nat.eq_zero_or_pos a with rfl | ha
        · have hup := h0 rfl
          refine r_known (d := 65) (b := true) rfl (by rw [eqB_eq]; rfl) ?_
          (repeat ((refine r_op ?_; refine r_pure hT rfl rfl rfl rfl rfl rfl ?_)))
          refine r_shl (n := 256 * (200 + ((i : Int) + 1))) rfl rfl rfl rfl rfl rfl rfl rfl (by decide) (by rw [wr_i64 (n := 200 + ((i : Int) + 1)) (by omega) (by omega)]; show wr .i64 ((200 + ((i : Int) + 1)) * 256) = _; rw [wr_i64 (by omega) (by omega)]; omega) ?_
          (repeat ((refine r_op ?_; first | refine r_pure hT rfl rfl rfl rfl rfl rfl ?_ | refine r_load hT rfl rfl rfl rfl rfl rfl rfl rfl rfl ?_)))
          refine r_known (d := 75) (b := false) rfl (by rw [hup, wr_i64 (by omega) (by omega), notB_eq, eqB_eq]; simp) ?_
          (repeat ((refine r_op ?_; refine r_pure hT rfl rfl rfl rfl rfl rfl ?_)))
          refine r_known (d := 78) (b := false) rfl (by rw [ltB_eq]; rfl) ?_
          (repeat (first | refine r_end ?_ | (refine r_op ?_; first | refine r_pure hT rfl rfl rfl rfl rfl rfl ?_ | refine r_off rfl rfl rfl rfl rfl ?_) | refine gi_plain ?_ | refine gi_skip ?_ | refine gi_inBlock ?_ | (refine gi_cnd ?_; first | refine gi_true rfl ?_ | refine gi_false rfl ?_)))
          exact on _ _ _ ⟨rfl, rfl, rfl, rfl, rfl, rfl, trivial⟩ ⟨rfl, trivial⟩ trivial
        · obtain ⟨p, y, hy, hxp, hin⟩ := hP ha
          refine r_known (d := 65) (b := false) rfl (by rw [eqB_eq]; simp; omega) ?_
          (repeat ((refine r_op ?_; first | refine r_pure hT rfl rfl rfl rfl rfl rfl ?_ | refine r_off rfl rfl rfl rfl rfl ?_)))
          refine r_known (d := 78) (b := true) rfl (by rw [ltB_eq]; exact decide_eq_true (by show (0 : Int) < (a : Int); omega)) ?_
          (repeat ((refine r_op ?_; refine r_pure hT rfl rfl rfl rfl rfl rfl ?_)))
          refine r_idx (row := x.row) hT rfl rfl rfl rfl rfl rfl rfl rfl rfl rfl rfl rfl (nn a) (by simp [hxa]) ?_
          (repeat ((refine r_op ?_; first | refine r_pure hT rfl rfl rfl rfl rfl rfl ?_ | refine r_load hT rfl rfl rfl rfl rfl rfl rfl rfl rfl ?_)))
          refine r_turn (d := 86) (y := I (p : Int)) rfl (by rw [hxp]) ?_
          refine r_idx (row := y.row) hT rfl rfl rfl rfl rfl rfl rfl rfl rfl rfl rfl rfl (nn p) (by simp [hy]) ?_
          (repeat ((refine r_op ?_; first | refine r_pure hT rfl rfl rfl rfl rfl rfl ?_ | refine r_load hT rfl rfl rfl rfl rfl rfl rfl rfl rfl ?_)))
          refine r_call (rIn_ok up y.v.i 24) rfl rfl rfl rfl rfl rfl rfl rfl Try.func26 rfl rfl rfl pB ?_
          rintro r S1 ⟨rfl, rfl⟩
          rw [hin]
          (repeat (first | refine r_end ?_ | (refine r_op ?_; refine r_pure hT rfl rfl rfl rfl rfl rfl ?_)))
          refine gi_known (d := 94) (b := false) rfl (by rw [notB_eq]; rfl) ?_
          (repeat (first | refine r_end ?_ | (refine r_op ?_; refine r_pure hT rfl rfl rfl rfl rfl rfl ?_) | refine gi_plain ?_ | refine gi_skip ?_ | refine gi_inBlock ?_ | (refine gi_cnd ?_; first | refine gi_true rfl ?_ | refine gi_false rfl ?_)))
          exact on _ _ _ ⟨rfl, rfl, rfl, rfl, rfl, rfl, trivial⟩ ⟨rfl, trivial⟩ trivial
  · clear next
    (repeat (first | refine gi_seq ?_ | refine gi_plain ?_ | refine gi_exit rfl ?_))
    refine r_call (awake24_ok) rfl rfl rfl rfl rfl rfl rfl rfl Try.func40 rfl rfl rfl pB ?_
    rintro r S1 ⟨rfl, rfl⟩
    (repeat (first | refine r_end ?_ | (refine r_op ?_; refine r_pure hT rfl rfl rfl rfl rfl rfl ?_)))
    refine gi_retW hT Try.func11 rfl rfl [] rfl rfl rfl rfl ?_
    exact ⟨rfl, rfl⟩
end Go.Proofs.Ytmocggibcniggaa.Kt
