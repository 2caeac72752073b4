/- Part of the proofs of this seat's statements: what the functions compute. No condition. -/
import Derived.Test.YtlldjlhjbhkngaaC23P
import Derived.Test.YtlldjlhjbhkngaaC23J0
set_option linter.unusedSimpArgs false
set_option linter.unusedVariables false
namespace Go.Proofs.Ytlldjlhjbhkngaa.Kt
open Go Kw Go.Proofs
set_option maxHeartbeats 4000000
set_option maxRecDepth 100000
/-! ### the addresses of Graph's nets -/
theorem and24_all : (List.range 4000).all (fun q => Nat.beq ((256 * q) &&& 4294967040) (256 * q) && Nat.beq ((256 * q + 9) &&& 4294967040) (256 * q)) = true := by kernel_rfl
theorem mask24 : maskF 24 = 4294967040 := by kernel_rfl
theorem bits24 : bitsF 4294967040 = 24 := by kernel_rfl
theorem pnet24 {i : Int} (h0 : 0 ≤ i) (h1 : i ≤ 1000000) (h2 : i % 256 = 0) : pnetF i 24 = i ∧ pnetF (i + 9) 24 = i := by
  obtain ⟨q, hq⟩ : ∃ q : Nat, i = (256 * q : Nat) := ⟨(i / 256).toNat, by omega⟩
  have h := List.all_eq_true.1 and24_all q (List.mem_range.2 (by omega))
  rw [Bool.and_eq_true] at h
  have e1 := Nat.eq_of_beq_eq_true h.1
  have e2 := Nat.eq_of_beq_eq_true h.2
  unfold pnetF
  rw [mask24, hq]
  refine ⟨?_, ?_⟩
  · have := and_i64 (256 * q) 4294967040 (by omega) (by omega)
    rw [e1] at this
    exact this
  · have := and_i64 (256 * q + 9) 4294967040 (by omega) (by omega)
    rw [e2] at this
    exact this
theorem in24 {i : Int} (h0 : 0 ≤ i) (h1 : i ≤ 1000000) (h2 : i % 256 = 0) : netF i 24 = i ∧ inP (i + 9) i 24 = true := by
  obtain ⟨e1, e2⟩ := pnet24 h0 h1 h2
  refine ⟨by rw [net_same 24 h0 (by omega)]; exact e1, ?_⟩
  have ok : ∀ {a : Int}, 0 ≤ a → a ≤ 4294967295 → okA a = true := fun h h' => by
    unfold okA; rw [leB_eq, leB_eq, decide_eq_true h, decide_eq_true h']; rfl
  unfold inP
  rw [ok (by omega) (by omega), ok h0 (by omega), e1, e2, eqB_eq, leB_eq, leB_eq]
  simp
theorem vert_found {l : List Ls} {v : Vt} (h : v ∈ vertsL l) : (findL l v).isSome = true := by
  obtain ⟨y, hy, ha, h⟩ := verts_mem.1 h
  rcases h with ⟨h1, h2, rfl⟩ | ⟨h1, rfl⟩
  · exact fold_has ha (by unfold isV; rw [h1, h2]; simp) rfl l none hy
  · exact fold_has ha (by unfold isV; rw [h1]; simp) rfl l none hy
theorem GrOk.sn {n : Int} {l : List Ls} (h : GrOk n l) : ∀ x ∈ (mapL l).sn, inP (x.p + 9) x.p x.b = true ∧ x.v ∈ (mapL l).vs := fun x hx => by
  have hx : x ∈ (vertsL l).flatMap (snF l) := hx
  obtain ⟨v, hv, hs⟩ := List.mem_flatMap.1 hx
  unfold snF at hs
  split at hs
  · rename_i hk
    rw [List.mem_singleton] at hs
    have hk2 : v.k = 2 := by rw [eqB_eq] at hk; exact of_decide_eq_true hk
    obtain ⟨y, hy⟩ : ∃ y, findL l v = some y := Option.isSome_iff_exists.1 (vert_found hv)
    rw [hy] at hs
    obtain ⟨q1, q2, q3, q4⟩ := find_is hy
    have hy2 : y.bits = 24 ∧ 0 ≤ y.id ∧ y.id ≤ 1000000 ∧ y.id % 256 = 0 := by
      obtain ⟨k, gs, ns, _, rfl, h2, h3, _⟩ := h.ex
      rcases List.mem_append.1 q1 with q1 | q1
      · obtain ⟨j, hj⟩ := List.mem_iff_getElem?.1 q1
        rw [(h2.el j y hj).1] at q3
        unfold isV at q3
        rw [hk2] at q3
        simp at q3
      · obtain ⟨e, _, r1, r2, r3⟩ := h3 y q1
        exact ⟨by rw [e], r1, r2, r3⟩
    rw [hs]
    show inP (netF v.i y.bits + 9) (netF v.i y.bits) y.bits = true ∧ v ∈ (mapL l).vs
    obtain ⟨b1, b2, b3, b4⟩ := hy2
    rw [b1, ← q4, (in24 b2 b3 b4).1]
    exact ⟨(in24 b2 b3 b4).2, hv⟩
  · cases hs
theorem GrOk.sb {n : Int} {l : List Ls} (h : GrOk n l) : ∀ x ∈ (mapL l).sb, inP (x.p + 9) x.p x.b = true ∧ (⟨1, x.r⟩ : Vt) ∈ (mapL l).vs := fun x hx => by
  have hx : x ∈ (vertsL l).flatMap (sbF l) := hx
  obtain ⟨v, hv, hs⟩ := List.mem_flatMap.1 hx
  unfold sbF at hs
  split at hs
  · cases hs
  · rename_i hk
    have hk1 : v.k = 1 := by
      rcases verts_kind hv with h | h
      · exact h
      · rw [h] at hk
        have : eqB (2 : Int) 2 = true := by rw [eqB_eq]; rfl
        rw [this] at hk; cases hk
    obtain ⟨y, hy⟩ : ∃ y, findL l v = some y := Option.isSome_iff_exists.1 (vert_found hv)
    rw [hy] at hs
    obtain ⟨q, hq, hs⟩ := List.mem_flatMap.1 hs
    obtain ⟨q1, _, _, _⟩ := find_is hy
    have hlk := h.link y q1 q hq
    unfold stF at hs
    split at hs
    · rename_i hc
      rw [Bool.and_eq_true, eqB_eq] at hc
      obtain ⟨b1, b2, b3, b4⟩ := hlk.2.2 (of_decide_eq_true hc.1)
      rw [List.mem_singleton] at hs
      rw [hs]
      show inP (netF q.i (bitsF q.d) + 9) (netF q.i (bitsF q.d)) (bitsF q.d) = true ∧ (⟨1, v.i⟩ : Vt) ∈ (mapL l).vs
      rw [b1, bits24, (in24 b2 b3 b4).1]
      refine ⟨(in24 b2 b3 b4).2, ?_⟩
      have : (⟨1, v.i⟩ : Vt) = v := by cases v; simp only [Vt.mk.injEq]; exact ⟨hk1.symm, trivial⟩
      rw [this]
      exact hv
    · cases hs
/-- Once found it stays so, at one of the map's. -/
structure Fnd (m : Mp) (s : Src) : Prop where
  v : s.ok = true → s.v ∈ m.vs
theorem fold_fnd {α : Type} {f : Src → α → Src} {Q : Src → Prop} : ∀ (l : List α) (s : Src), (∀ s, ∀ x ∈ l, Q s → Q (f s x)) → Q s → Q (l.foldl f s)
  | [], _, _, h => h
  | x :: l, s, hf, h => by
    rw [List.foldl_cons]
    exact fold_fnd l _ (fun s y hy => hf s y (List.mem_cons_of_mem _ hy)) (hf s x (List.mem_cons_self ..) h)
theorem fold_hit {α : Type} {f : Src → α → Src} {x : α} (hit : ∀ s, (f s x).ok = true) (keep : ∀ s y, s.ok = true → (f s y).ok = true) : ∀ (l : List α) (s : Src), x ∈ l → (l.foldl f s).ok = true
  | y :: l, s, h => by
    rw [List.foldl_cons]
    rcases List.mem_cons.1 h with rfl | h
    · exact fold_fnd (Q := fun s => s.ok = true) l _ (fun s y _ => keep s y) (hit s)
    · exact fold_hit hit keep l _ h
theorem sn1_keep (a : Int) (s : Src) (x : Sn) (h : s.ok = true) : (sn1 a s x).ok = true := by unfold sn1; split; rfl; exact h
theorem sb1_keep (a : Int) (s : Src) (x : Sb) (h : s.ok = true) : (sb1 a s x).ok = true := by unfold sb1; split; rfl; exact h
theorem sn1_hit {a : Int} {x : Sn} (hi : inP a x.p x.b = true) (s : Src) : (sn1 a s x).ok = true := by
  unfold sn1
  split
  · rfl
  · rename_i h
    cases hk : s.ok with
    | true => rfl
    | false => exact absurd ⟨hi, .inl hk⟩ h
theorem sb1_hit {a : Int} {x : Sb} (hi : inP a x.p x.b = true) (s : Src) : (sb1 a s x).ok = true := by
  unfold sb1
  split
  · rfl
  · rename_i h
    cases hk : s.ok with
    | true => rfl
    | false => exact absurd ⟨hi, .inl hk⟩ h
theorem GrOk.src_v {n : Int} {l : List Ls} (h : GrOk n l) (a : Int) : (srcF a (mapL l)).ok = true → (srcF a (mapL l)).v ∈ (mapL l).vs :=
  fold_fnd (Q := fun s => s.ok = true → s.v ∈ (mapL l).vs) _ _ (fun s x hx hs => by
    unfold sb1
    split
    · exact fun _ => (h.sb x hx).2
    · exact hs) (fold_fnd (Q := fun s => s.ok = true → s.v ∈ (mapL l).vs) _ _ (fun s x hx hs => by
    unfold sn1
    split
    · exact fun _ => (h.sn x hx).2
    · exact hs) (fun h => nomatch h))
/-- From an address of one of its nets there is a tree. -/
theorem GrOk.cast {n : Int} {l : List Ls} (h : GrOk n l) {a : Int} (ha : (∃ x ∈ (mapL l).sn, a = x.p + 9) ∨ ∃ x ∈ (mapL l).sb, a = x.p + 9) : ∃ v, v ∈ (mapL l).vs ∧ castT (mapL l) (srcF a (mapL l)) = refTree (mapL l) v := by
  have hok : (srcF a (mapL l)).ok = true := by
    rcases ha with ⟨x, hx, rfl⟩ | ⟨x, hx, rfl⟩
    · exact fold_fnd (Q := fun s => s.ok = true) _ _ (fun s y _ => sb1_keep _ s y) (fold_hit (sn1_hit (h.sn x hx).1) (sn1_keep _) _ _ hx)
    · exact fold_hit (sb1_hit (h.sb x hx).1) (sb1_keep _) _ _ hx
  exact ⟨_, h.src_v a hok, if_pos hok⟩
end Go.Proofs.Ytlldjlhjbhkngaa.Kt
