/- Part of the proofs of this seat's statements: what the functions compute. No condition. -/
import Derived.Test.YtmocggibcniggaaG5
set_option linter.unusedSimpArgs false
set_option linter.unusedVariables false
namespace Go.Proofs.Ytmocggibcniggaa.Kt
open Go Kw Go.Proofs
set_option maxHeartbeats 4000000
set_option maxRecDepth 100000
/-! ### who goes on comes nearer -/
theorem mem_rawE {t : List Nd} {E : List Ent} {x : Rt} : x ∈ rawE t E ↔ ∃ e ∈ E, ∃ a, placeL t e.v = some a ∧ x = ⟨e.p, e.b, wr .i64 ((t.getD a zNd).c + e.c), (hopF t a).1, (hopF t a).2⟩ := by
  have key : ∀ (E : List Ent) (L : List Rt), x ∈ E.foldl (fun L e => putR t L e.v e.p e.b e.c) L ↔ x ∈ L ∨ ∃ e ∈ E, ∃ a, placeL t e.v = some a ∧ x = ⟨e.p, e.b, wr .i64 ((t.getD a zNd).c + e.c), (hopF t a).1, (hopF t a).2⟩ := by
    intro E
    induction E with
    | nil => intro L; simp
    | cons e E ih =>
      intro L
      rw [List.foldl_cons, ih]
      have hp : x ∈ putR t L e.v e.p e.b e.c ↔ x ∈ L ∨ ∃ a, placeL t e.v = some a ∧ x = ⟨e.p, e.b, wr .i64 ((t.getD a zNd).c + e.c), (hopF t a).1, (hopF t a).2⟩ := by
        unfold putR
        split
        · rename_i h
          rw [h]
          exact ⟨.inl, fun h => h.elim id (fun ⟨a, h, _⟩ => by cases h)⟩
        · rename_i a h
          rw [h, List.mem_append, List.mem_singleton]
          exact ⟨fun h => h.imp id (fun h => ⟨a, rfl, h⟩), fun h => h.imp id (fun ⟨b, h1, h2⟩ => by cases h1; exact h2)⟩
      rw [hp]
      constructor
      · rintro ((h | h) | ⟨e', h1, h2⟩)
        · exact .inl h
        · exact .inr ⟨e, List.mem_cons_self .., h⟩
        · exact .inr ⟨e', List.mem_cons_of_mem _ h1, h2⟩
      · rintro (h | ⟨e', h1, h2⟩)
        · exact .inl (.inl h)
        · rcases List.mem_cons.1 h1 with rfl | h1
          · exact .inl (.inr h2)
          · exact .inr ⟨e', h1, h2⟩
  have := key E []
  simpa [rawE] using this
/-- Who is next, behind a look through the edges. -/
def nxF (es : List Eg) (D : Int) : Int := es.foldl (fun a e => if e.f.k = 2 ∧ e.d = D then e.t.i else a) D
theorem nx_is {es : List Eg} {D R : Int} (h : ∀ e ∈ es, e.f.k = 2 → e.d = D → e.t.i = R) (h' : D = R ∨ ∃ e ∈ es, e.f.k = 2 ∧ e.d = D) : nxF es D = R := by
  have key : ∀ (es : List Eg) (a : Int), (∀ e ∈ es, e.f.k = 2 → e.d = D → e.t.i = R) → (a = R ∨ ∃ e ∈ es, e.f.k = 2 ∧ e.d = D) → es.foldl (fun a e => if e.f.k = 2 ∧ e.d = D then e.t.i else a) a = R := by
    intro es
    induction es with
    | nil =>
      rintro a _ (h | ⟨e, h, _⟩)
      · exact h
      · cases h
    | cons e es ih =>
      intro a h h'
      rw [List.foldl_cons]
      refine ih _ (fun e' he' => h e' (List.mem_cons_of_mem _ he')) ?_
      by_cases hc : e.f.k = 2 ∧ e.d = D
      · rw [if_pos hc]
        exact .inl (h e (List.mem_cons_self ..) hc.1 hc.2)
      · rw [if_neg hc]
        rcases h' with h' | ⟨e', he', h'⟩
        · exact .inl h'
        · rcases List.mem_cons.1 he' with rfl | he'
          · exact absurd h' hc
          · exact .inr ⟨e', he', h'⟩
  exact key es D h h'
theorem getD_at {t : List Nd} {i : Nat} {n : Nd} (h : t[i]? = some n) : t.getD i zNd = n := by rw [List.getD_eq_getElem?_getD, h]; rfl
section
variable {n : Int} {P Q : Nat} {non : Bool} {l : List Ls}
structure HopOk (l : List Ls) (t : List Nd) (i : Nat) (m : Nat) (g : Nd) : Prop where
  lt : m < dep t i i
  gt : t[anc t i m]? = some g
  vs : g.v ∈ (mapL l).vs
  kd : g.v.k = 1
  c : 1 ≤ g.c
  nx : nxF (mapL l).es (hopF t i).2 = g.v.i
theorem hop_next (hG : GrOk n l) (hM : Mde n P Q non l) {s : Int} {t : List Nd} (hT : Tr l ⟨1, s⟩ t) {i : Nat} (hi : i < t.length) (hn : (hopF t i).2 ≠ 0) : ∃ m g, HopOk l t i m g := by
  have hT0 := hT.tre
  obtain ⟨d1, d2⟩ := dep_spec hT0 (Nat.le_refl i) hi
  have hle := fun m hm => anc_le hT0 hi (m := m) (fun u hu => d2 u (Nat.lt_of_lt_of_le hu hm))
  have hf0 : hopF t i = hopF t i := rfl
  obtain ⟨M, hMd⟩ : ∃ M, M = dep t i i := ⟨_, rfl⟩
  conv at hf0 => rhs; unfold hopF
  rw [← hMd] at d1 d2 hle hf0
  by_cases hM0 : M = 0
  · rw [if_pos hM0] at hf0
    rw [hf0] at hn
    exact absurd rfl hn
  rw [if_neg hM0] at hf0
  have hk6 : 1 + n % 6 ≤ 6 := by omega
  obtain ⟨nf, hnf⟩ : ∃ nf, t[anc t i (M - 1)]? = some nf := ⟨_, List.getElem?_eq_getElem (by have := hle (M - 1) (by omega); omega)⟩
  obtain ⟨e, he, p, x, hp, hx, hxf, het, hnp, hnc, hnd, _⟩ := hT.gr.edge (d2 (M - 1) (by omega)) hnf
  have hpar := (par_at hT0 (d2 (M - 1) (by omega)) hnf).1
  have hp0 : par t (anc t i (M - 1)) = 0 := by
    have : anc t i (M - 1 + 1) = par t (anc t i (M - 1)) := rfl
    rw [← this, Nat.sub_add_cancel (by omega)]; exact d1
  rw [hp0, hnp] at hpar
  have hp0' : p = 0 := by omega
  subst hp0'
  rw [hT.hd] at hx
  cases hx
  have hE := hM.edge he
  have hck := hG.cost e he
  have hfk : e.f.k = 1 := by rw [← hxf]; rfl
  have he1 := hE.up hfk
  have hnc : nf.c = e.c := by
    rw [hnc]
    show wr .i64 (0 + e.c) = e.c
    rw [Int.zero_add, wr_i64 (by omega) (by omega)]
  rw [getD_at hnf] at hf0
  have hvk := verts_kind (hT.vs nf (List.mem_of_getElem? hnf))
  by_cases hk1 : nf.v.k = 1
  · rw [if_pos hk1] at hf0
    have hto := hE.to (by rw [het]; exact hk1)
    rw [het] at hto
    refine ⟨M - 1, nf, by omega, hnf, hT.vs nf (List.mem_of_getElem? hnf), hk1, by omega, ?_⟩
    rw [hf0]
    refine nx_is (fun e' he' h1 h2 => ?_) (.inl rfl)
    have hE' := hM.edge he'
    obtain ⟨_, b2, b3, b4, b5⟩ := hE'.dn h1
    have := hE'.to b2
    simp only at h2
    omega
  · rw [if_neg hk1] at hf0
    have hk2 : nf.v.k = 2 := hvk.resolve_left hk1
    by_cases hM1 : M = 1
    · rw [if_pos hM1] at hf0
      rw [hf0] at hn
      exact absurd rfl hn
    rw [if_neg hM1] at hf0
    obtain ⟨ng, hng⟩ : ∃ ng, t[anc t i (M - 2)]? = some ng := ⟨_, List.getElem?_eq_getElem (by have := hle (M - 2) (by omega); omega)⟩
    obtain ⟨e2, he2, p2, x2, hp2, hx2, hxf2, het2, hnp2, hnc2, hnd2, _⟩ := hT.gr.edge (d2 (M - 2) (by omega)) hng
    have hpar2 := (par_at hT0 (d2 (M - 2) (by omega)) hng).1
    have hp1 : par t (anc t i (M - 2)) = anc t i (M - 1) := by
      have : anc t i (M - 2 + 1) = par t (anc t i (M - 2)) := rfl
      rw [← this, show M - 2 + 1 = M - 1 by omega]
    rw [hp1, hnp2] at hpar2
    have hpe : p2 = anc t i (M - 1) := by omega
    subst hpe
    rw [hnf] at hx2
    cases hx2
    have hE2 := hM.edge he2
    obtain ⟨b1, b2, b3, b4, b5⟩ := hE2.dn (by rw [← hxf2]; exact hk2)
    have hto := hE2.to b2
    have hgc : ng.c = nf.c := by rw [hnc2, b1, Int.add_zero, wr_i64 (by omega) (by omega)]
    rw [getD_at hng] at hf0
    refine ⟨M - 2, ng, by omega, hng, hT.vs ng (List.mem_of_getElem? hng), by rw [← het2]; exact b2, by omega, ?_⟩
    rw [hf0]
    refine nx_is (fun e' he' h1 h2 => ?_) (.inr ⟨e2, he2, by rw [← hxf2]; exact hk2, hnd2.symm⟩)
    have hE' := hM.edge he'
    obtain ⟨_, c2, c3, c4, c5⟩ := hE'.dn h1
    have hto' := hE'.to c2
    simp only at h2
    rw [← het2]
    omega
theorem way_short (hG : GrOk n l) {s : Int} {t : List Nd} (hT : Tr l ⟨1, s⟩ t) {i : Nat} (hi : i < t.length) {m0 : Nat} {g : Nd} (hm0 : m0 < dep t i i) (hg : t[anc t i m0]? = some g) {u : List Nd} (hU : Tr l g.v u) :
    ∀ d, d ≤ m0 → ∃ (b : Nat) (y z : Nd), u[b]? = some y ∧ t[anc t i (m0 - d)]? = some z ∧ y.v = z.v ∧ y.c + g.c ≤ z.c := by
  have hT0 := hT.tre
  obtain ⟨d1, d2⟩ := dep_spec hT0 (Nat.le_refl i) hi
  have hle := fun m hm => anc_le hT0 hi (m := m) (fun u hu => d2 u (Nat.lt_of_lt_of_le hu hm))
  have hes : ∀ e ∈ (mapL l).es, 0 ≤ e.c ∧ e.c ≤ 10 := hG.cost
  intro d
  induction d with
  | zero => intro _; exact ⟨0, rootN g.v, g, hU.hd, hg, rfl, by show (0 : Int) + g.c ≤ g.c; omega⟩
  | succ d ih =>
    intro hd
    obtain ⟨b, y, z, hb, hz, hyz, hyc⟩ := ih (by omega)
    have hpos := d2 (m0 - (d + 1)) (by omega)
    obtain ⟨w, hw⟩ : ∃ w, t[anc t i (m0 - (d + 1))]? = some w := ⟨_, List.getElem?_eq_getElem (by have := hle (m0 - (d + 1)) (by omega); omega)⟩
    obtain ⟨e, he, p, x, hp, hx, hxf, het, hnp, hnc, _, _⟩ := hT.gr.edge hpos hw
    have hpar := (par_at hT0 hpos hw).1
    have hp1 : par t (anc t i (m0 - (d + 1))) = anc t i (m0 - d) := by
      have : anc t i (m0 - (d + 1) + 1) = par t (anc t i (m0 - (d + 1))) := rfl
      rw [← this, show m0 - (d + 1) + 1 = m0 - d by omega]
    rw [hp1, hnp] at hpar
    have hpe : p = anc t i (m0 - d) := by omega
    subst hpe
    rw [hz] at hx
    cases hx
    obtain ⟨c1, c2⟩ := hT.gr.cost (C := 10) hT.zero hT.len (by omega) hes _ _ hz
    have hzl := (List.getElem?_eq_some_iff.1 hz).1
    have hTl := hT.len
    have hec := hes e he
    have hwc : w.c = z.c + e.c := by rw [hnc, wr_i64 (by omega) (by omega)]
    have hpl : placeL u e.f = some b := by rw [← hxf, ← hyz]; exact hU.gr.place hb
    obtain ⟨b', hb'⟩ := closed hU.en he hpl
    obtain ⟨y', hy', hyv'⟩ := placeL_some hb'
    have := hU.gr.short soon_cheap (C := 10) hU.zero hU.len (by omega) hes he hb (by rw [hyz]; exact hxf) hy' hyv'
    exact ⟨b', y', w, hy', hw, by rw [hyv', het], by omega⟩
theorem ents_cost (hG : GrOk n l) : ∀ e ∈ ents (mapL l), 0 ≤ e.c ∧ e.c ≤ 10 := fun e he => by
  unfold ents at he
  rcases List.mem_append.1 he with he | he
  · obtain ⟨x, _, rfl⟩ := List.mem_map.1 he
    exact ⟨Int.le_refl _, by show (0 : Int) ≤ 10; omega⟩
  · obtain ⟨x, hx, rfl⟩ := List.mem_map.1 he
    have hx : x ∈ (vertsL l).flatMap (sbF l) := hx
    obtain ⟨v, _, hv⟩ := List.mem_flatMap.1 hx
    unfold sbF at hv
    split at hv
    · cases hv
    · obtain ⟨k, hk, hk'⟩ := List.mem_flatMap.1 hv
      cases hf : findL l v with
      | none => rw [hf] at hk; cases hk
      | some y =>
        rw [hf] at hk
        have := hG.link y (find_mem hf) k hk
        unfold stF at hk'
        split at hk'
        · rw [List.mem_singleton.1 hk']
          exact ⟨this.1, this.2.1⟩
        · cases hk'
theorem hops (hG : GrOk n l) (hM : Mde n P Q non l) {s : Int} {x : Rt} (hx : x ∈ refR (rawL l s)) (hn : x.n ≠ 0) : ∃ y ∈ refR (rawL l (nxF (mapL l).es x.n)), y.p = x.p ∧ y.b = x.b ∧ y.c < x.c := by
  have hf := hG.few
  have hB := ((told_ref (rawL l s)).mem x).1 hx
  have hraw := hB.mem
  unfold rawL at hraw
  rw [raw_ents, mem_rawE] at hraw
  obtain ⟨E, hE, a, ha, hxe⟩ := hraw
  have hxn : x.n = (hopF (refTree (mapL l) ⟨1, s⟩) a).2 := by rw [hxe]
  have hv : (⟨1, s⟩ : Vt) ∈ (mapL l).vs := by
    refine Classical.byContradiction fun hv => ?_
    have : refTree (mapL l) ⟨1, s⟩ = [] := by
      unfold refTree
      rw [show (mapL l).vs.any (fun x => decide (x = (⟨1, s⟩ : Vt))) = false from ?_]
      rw [← Bool.not_eq_true, List.any_eq_true]
      rintro ⟨y, hy, he⟩
      exact hv (of_decide_eq_true he ▸ hy)
    rw [this] at ha
    cases ha
  have hT := tr_of hf hv
  obtain ⟨t, ht⟩ : ∃ t, t = refTree (mapL l) ⟨1, s⟩ := ⟨_, rfl⟩
  rw [← ht] at ha hxe hxn hT
  obtain ⟨z, hz, hzv⟩ := placeL_some ha
  have hal := (List.getElem?_eq_some_iff.1 hz).1
  obtain ⟨m0, g, hH⟩ := hop_next hG hM hT hal (by rw [← hxn]; exact hn)
  have hgv : g.v = ⟨1, g.v.i⟩ := by have := hH.kd; cases hgg : g.v; rw [hgg] at this; simp only at this; rw [this]
  have hU := tr_of hf hH.vs
  obtain ⟨b, y, z', hb, hz', hyz, hyc⟩ := way_short hG hT hal hH.lt hH.gt hU m0 (Nat.le_refl _)
  rw [Nat.sub_self] at hz'
  have : t[a]? = some z' := hz'
  rw [hz] at this
  cases this
  have hpl : placeL (refTree (mapL l) g.v) E.v = some b := by rw [← hzv, ← hyz]; exact hU.gr.place hb
  rw [hxn, hH.nx]
  rw [hgv] at hpl hb hU
  have hmem : (⟨E.p, E.b, wr .i64 (((refTree (mapL l) ⟨1, g.v.i⟩).getD b zNd).c + E.c), (hopF (refTree (mapL l) ⟨1, g.v.i⟩) b).1, (hopF (refTree (mapL l) ⟨1, g.v.i⟩) b).2⟩ : Rt) ∈ rawL l g.v.i := by
    show _ ∈ rawR (mapL l) (refTree (mapL l) ⟨1, g.v.i⟩)
    rw [raw_ents, mem_rawE]
    exact ⟨E, hE, b, hpl, rfl⟩
  obtain ⟨w, h1, h2, h3⟩ := best_ex _ _ hmem
  have hes : ∀ e ∈ (mapL l).es, 0 ≤ e.c ∧ e.c ≤ 10 := hG.cost
  obtain ⟨c1, c2⟩ := hT.gr.cost (C := 10) hT.zero hT.len (by omega) hes _ _ hz
  obtain ⟨c3, c4⟩ := hU.gr.cost (C := 10) hU.zero hU.len (by omega) hes _ _ hb
  have hEc := ents_cost hG E hE
  have hTl := hT.len
  have hUl := hU.len
  have hbl := (List.getElem?_eq_some_iff.1 hb).1
  have hgc := hH.c
  have hxc : x.c = z.c + E.c := by rw [hxe]; show wr .i64 ((t.getD a zNd).c + E.c) = _; rw [getD_at hz, wr_i64 (by omega) (by omega)]
  have hwc : w.c ≤ y.c + E.c := by
    have h3 : w.c ≤ wr .i64 (((refTree (mapL l) ⟨1, g.v.i⟩).getD b zNd).c + E.c) := h3
    rw [getD_at hb, wr_i64 (by omega) (by omega)] at h3
    exact h3
  exact ⟨w, ((told_ref _).mem w).2 h1, by rw [h2.1, hxe], by rw [h2.2, hxe], by omega⟩
end
end Go.Proofs.Ytmocggibcniggaa.Kt
namespace Go.Proofs.Ytmocggibcniggaa.Kt
open Go Kw Go.Proofs
attribute [local irreducible] Kw.GI Kw.GR Kw.FnR Kw.FnX Kw.FnI
set_option maxHeartbeats 16000000
set_option maxRecDepth 100000
def nxN (es : List Eg) (D : Int) (j : Nat) : Int := (es.take j).foldl (fun a e => if e.f.k = 2 ∧ e.d = D then e.t.i else a) D
theorem nxN_step {es : List Eg} {D : Int} {j : Nat} {e : Eg} (h : es[j]? = some e) : nxN es D (j + 1) = if e.f.k = 2 ∧ e.d = D then e.t.i else nxN es D j := fold_take _ _ h
theorem nxN_all (es : List Eg) (D : Int) : nxN es D es.length = nxF es D := by unfold nxN nxF; rw [List.take_length]
/-- Is a nearer one among the first j? -/
def fdN (o : List Rt) (x : Rt) (j : Nat) : Bool := (o.take j).any (fun y => eqB y.p x.p && eqB y.b x.b && ltB y.c x.c)
theorem fdN_step {o : List Rt} {x y : Rt} {j : Nat} (h : o[j]? = some y) : fdN o x (j + 1) = (fdN o x j || (eqB y.p x.p && eqB y.b x.b && ltB y.c x.c)) := by
  unfold fdN
  rw [take_snoc h, List.any_append]
  simp
theorem fdN_all {o : List Rt} {x : Rt} (h : ∃ y ∈ o, y.p = x.p ∧ y.b = x.b ∧ y.c < x.c) : fdN o x o.length = true := by
  obtain ⟨y, hy, h1, h2, h3⟩ := h
  unfold fdN
  rw [List.take_length, List.any_eq_true]
  refine ⟨y, hy, ?_⟩
  rw [eqB_eq, eqB_eq, ltB_eq, h1, h2, decide_eq_true h3]
  simp
theorem RouteHops_ok (n : Int) (hn : 0 ≤ n ∧ n ≤ 255) (ps qs : List Int) (hps : ∀ p ∈ ps, 0 ≤ p ∧ p ≤ 255) (hqs : ∀ p ∈ qs, 0 ≤ p ∧ p ≤ 255) (one : List Bool) : FnR Try.prog 6 [u8 n, rs8 ps, rs8 qs, rsB one] (RB true) := by
  refine fnR_intro (T := TT) (n := 134) Try.func6 rfl rfl rfl (fun w Z => ?_)
  (repeat (first | refine r_end ?_ | (refine r_op ?_; refine r_pure hT rfl rfl rfl rfl rfl rfl ?_) | refine gi_seq ?_ | refine gi_plain ?_))
  refine r_callX [] [] (GraphM_ok n hn ps qs hps hqs one) rfl rfl rfl rfl rfl rfl Try.func28 rfl rfl rfl rfl rfl rfl rfl pGm ?_
  rintro r H1 S1 ⟨l, hl, hM, rfl, rfl, rfl⟩
  have hf := hl.few
  refine r_freeze 0 rfl (frz_seO l) ?_
  skip
  refine r_call (MapF l hf) rfl rfl rfl rfl rfl rfl rfl rfl Try.func15 rfl rfl rfl pMapP ?_
  rintro r S1 ⟨rfl, rfl⟩
  (repeat (first | refine r_end ?_ | (refine r_op ?_; first | refine r_store hT rfl rfl rfl rfl rfl rfl rfl rfl rfl rfl ?_ | refine r_alloc hT rfl rfl rfl rfl rfl rfl rfl rfl rfl ?_) | refine gi_seq ?_))
  refine gi_freeze 1 (L' := (mapL l).vs.map Vt.row) rfl rfl ?_
  refine gi_freeze 2 (L' := (mapL l).es.map Eg.row) rfl rfl ?_
  refine gi_freeze 3 (L' := (mapL l).sb.map Sb.row) rfl rfl ?_
  refine gi_freeze 4 (L' := (mapL l).sn.map Sn.row) rfl rfl ?_
  refine gi_freeze 5 (L' := (mapL l).wl.map nRow) rfl rfl ?_
  refine gi_weak (F' := [(9, .box 0 0), (0, u8 n)]) (H' := [hMf (mapL l)]) (S' := []) ⟨rfl, rfl, trivial⟩ ⟨rfl, trivial⟩ trivial rfl ?_
  have hel : (mapL l).es.length ≤ 10000000 := map_es hf
  (repeat (first | refine r_end ?_ | (refine r_op ?_; refine r_pure hT rfl rfl rfl rfl rfl rfl ?_) | refine gi_plain ?_ | refine gi_block ?_))
  refine gi_loop (σ := Nat) (fun i => [(10, I (i : Int)), (9, .box 0 0), (0, u8 n)]) (fun _ => [hMf (mapL l)]) (fun _ => []) (fun i => i ≤ 7) (fun i => 7 - i) 1 (by decide) ⟨rfl, rfl, rfl, trivial⟩ ⟨rfl, trivial⟩ trivial (fun _ => rfl) (fun i hi next => ?_)
  have hi : i ≤ 7 := hi
  have hr := rm_pos (x := n) (y := 6) hn.1
  (repeat (first | refine r_end ?_ | (refine r_op ?_; refine r_pure hT rfl rfl rfl rfl rfl rfl ?_) | refine gi_seq ?_ | refine gi_plain ?_))
  refine gi_le rfl (fun h3 => ?_) (fun h3 => ?_)
  · have h3' : i < 7 := by
      rw [wr_i64 (n := n) (by omega) (by omega), wr_i64 (by omega) (by omega)] at h3
      omega
    have hLl := rts_len hf (i : Int)
    have hhop := fun x h1 h2 => hops hl hM (s := (i : Int)) (x := x) h1 h2
    have hRi := RoutesF l i hf
    have hRn := fun s => RoutesF l s hf
    have hRl := fun s => rts_len hf s
    have hns : ∀ s, rtsL l s = refR (rawL l s) := fun _ => rfl
    simp only [← hns] at hhop
    clear hM hl hns
    generalize rtsL l (i : Int) = L at hLl hhop hRi
    (repeat (first | (refine r_op ?_; first | refine r_pure hT rfl rfl rfl rfl rfl rfl ?_ | refine r_load hT rfl rfl rfl rfl rfl rfl rfl rfl rfl ?_) | refine gi_seq ?_ | refine gi_plain ?_ | refine gi_skip ?_ | refine gi_block ?_))
    refine r_callX [] [] (hRi) rfl rfl rfl rfl rfl rfl Try.func30 rfl rfl rfl rfl rfl rfl rfl pFx ?_
    rintro r H1 S1 ⟨rfl, rfl, rfl⟩
    (repeat (first | refine r_end ?_ | (refine r_op ?_; refine r_pure hT rfl rfl rfl rfl rfl rfl ?_) | refine gi_seq ?_))
    refine gi_thaw 11 rfl ?_
    (repeat (first | refine r_end ?_ | (refine r_op ?_; refine r_pure hT rfl rfl rfl rfl rfl rfl ?_) | refine gi_plain ?_ | refine gi_block ?_))
    refine gi_loop (σ := Nat) (fun k => [(12, I (k : Int)), (11, rsRt L), (10, I (i : Int)), (9, .box 0 0), (0, u8 n)]) (fun _ => [hMf (mapL l)]) (fun _ => []) (fun k => k ≤ L.length) (fun k => L.length - k) 0 (Nat.zero_le _) ⟨rfl, rfl, rfl, rfl, rfl, trivial⟩ ⟨rfl, trivial⟩ trivial (fun _ => rfl) (fun k hk next2 => ?_)
    have hk : k ≤ L.length := hk
    (repeat (first | refine r_end ?_ | (refine r_op ?_; refine r_pure hT rfl rfl rfl rfl rfl rfl ?_) | refine gi_seq ?_ | refine gi_plain ?_))
    refine gi_lt (p := (k : Int)) (q := ((L.map Rt.row).length : Int)) rfl (fun h4 => ?_) (fun h4 => ?_)
    · rw [List.length_map] at h4
      have hkl : k < L.length := by omega
      obtain ⟨x, hx⟩ : ∃ x, L[k]? = some x := ⟨_, List.getElem?_eq_getElem hkl⟩
      have hhx := hhop x (List.mem_of_getElem? hx)
      have on : ∀ F1 H1 S1, SubF [(12, I (wr .i64 ((k : Int) + 1))), (11, rsRt L), (10, I (i : Int)), (9, .box 0 0), (0, u8 n)] F1 → SubH [hMf (mapL l)] H1 → SubS [] S1 → GI _ _ F1 H1 S1 := fun F1 H1 S1 hF hH hS => by
        refine next2 (k + 1) F1 H1 S1 (by omega) (by omega) ?_ hH hS
        rw [wadd1 (by omega)] at hF
        exact hF
      clear next next2
      (repeat (first | (refine r_op ?_; refine r_pure hT rfl rfl rfl rfl rfl rfl ?_) | refine gi_seq ?_ | refine gi_plain ?_ | refine gi_skip ?_ | refine gi_block ?_))
      refine r_idx (row := x.row) hT rfl rfl rfl rfl rfl rfl rfl rfl rfl rfl rfl rfl (nn k) (by simp [hx]) ?_
      (repeat (first | refine r_end ?_ | (refine r_op ?_; first | refine r_pure hT rfl rfl rfl rfl rfl rfl ?_ | refine r_load hT rfl rfl rfl rfl rfl rfl rfl rfl rfl ?_) | refine gi_seq ?_ | refine gi_plain ?_ | refine gi_block ?_))
      refine gi_loop (σ := Nat) (fun j => [(14, I (j : Int)), (13, I (nxN (mapL l).es x.n j)), (12, I (k : Int)), (11, rsRt L), (10, I (i : Int)), (9, .box 0 0), (0, u8 n)]) (fun _ => [hMf (mapL l)]) (fun _ => []) (fun j => j ≤ (mapL l).es.length) (fun j => (mapL l).es.length - j) 0 (Nat.zero_le _) ⟨rfl, rfl, rfl, rfl, rfl, rfl, rfl, trivial⟩ ⟨rfl, trivial⟩ trivial (fun _ => rfl) (fun j hj next3 => ?_)
      have hj : j ≤ (mapL l).es.length := hj
      (repeat (first | refine r_end ?_ | (refine r_op ?_; first | refine r_pure hT rfl rfl rfl rfl rfl rfl ?_ | refine r_load hT rfl rfl rfl rfl rfl rfl rfl rfl rfl ?_) | refine gi_seq ?_ | refine gi_plain ?_))
      refine gi_lt (p := (j : Int)) (q := (((mapL l).es.map Eg.row).length : Int)) rfl (fun h5 => ?_) (fun h5 => ?_)
      · rw [List.length_map] at h5
        have hjl : j < (mapL l).es.length := by omega
        obtain ⟨e, he⟩ : ∃ e, (mapL l).es[j]? = some e := ⟨_, List.getElem?_eq_getElem hjl⟩
        have hst := nxN_step (D := x.n) he
        have on3 : ∀ D, nxN (mapL l).es x.n (j + 1) = D → ∀ F1 H1 S1, SubF [(14, I (wr .i64 ((j : Int) + 1))), (13, I D), (12, I (k : Int)), (11, rsRt L), (10, I (i : Int)), (9, .box 0 0), (0, u8 n)] F1 → SubH [hMf (mapL l)] H1 → SubS [] S1 → GI _ _ F1 H1 S1 := fun D hD F1 H1 S1 hF hH hS => by
          refine next3 (j + 1) F1 H1 S1 (by omega) (by omega) ?_ hH hS
          rw [wadd1 (by omega)] at hF
          rw [hD]
          exact hF
        clear next3 on
        (repeat (first | (refine r_op ?_; first | refine r_pure hT rfl rfl rfl rfl rfl rfl ?_ | refine r_load hT rfl rfl rfl rfl rfl rfl rfl rfl rfl ?_) | refine gi_seq ?_ | refine gi_plain ?_ | refine gi_skip ?_ | refine gi_block ?_))
        refine r_thaw 55 rfl ?_
        refine r_idx (row := e.row) hT rfl rfl rfl rfl rfl rfl rfl rfl rfl rfl rfl rfl (nn j) (by simp [he]) ?_
        (repeat (first | refine r_end ?_ | (refine r_op ?_; first | refine r_load hT rfl rfl rfl rfl rfl rfl rfl rfl rfl ?_ | refine r_store hT rfl rfl rfl rfl rfl rfl rfl rfl rfl rfl ?_ | refine r_alloc hT rfl rfl rfl rfl rfl rfl rfl rfl rfl ?_) | refine gi_seq ?_))
        refine gi_drawM [] [(0, .p), (1, .p), (2, .t), (3, .p), (4, .p), (5, .p), (7, .p), (8, .p), (9, .p), (10, .p), (6, .t), (11, .t), (12, .p), (13, .p)] [0, 1, 2, 4, 8, 16, 48, 16, 16, 400, 528, 1040, 2128, 4112] [0, 1, 2, 4, 8, 16, 48, 16, 16, 400, 528, 1040, 2128, 4112] Kt.hm rfl (by kernel_rfl) (fun w1 K => ?_)
        (repeat ((refine r_op ?_; first | refine r_pure hT rfl rfl rfl rfl rfl rfl ?_ | refine r_load hT rfl rfl rfl rfl rfl rfl rfl rfl rfl ?_)))
        refine r_case (d := 63) rfl (fun c1 => ?_) (fun c1 => ?_)
        · rw [eqB_eq] at c1
          have c1 : e.f.k = 2 := of_decide_eq_true c1
          (repeat ((refine r_op ?_; refine r_pure hT rfl rfl rfl rfl rfl rfl ?_)))
          refine r_idx (row := x.row) hT rfl rfl rfl rfl rfl rfl rfl rfl rfl rfl rfl rfl (nn k) (by simp [hx]) ?_
          (repeat (first | refine r_end ?_ | (refine r_op ?_; first | refine r_pure hT rfl rfl rfl rfl rfl rfl ?_ | refine r_load hT rfl rfl rfl rfl rfl rfl rfl rfl rfl ?_)))
          refine gi_eq (p := e.d) (q := x.n) rfl (fun c2 => ?_) (fun c2 => ?_)
          · rw [if_pos ⟨c1, c2⟩] at hst
            (repeat (first | refine r_end ?_ | (refine r_op ?_; first | refine r_pure hT rfl rfl rfl rfl rfl rfl ?_ | refine r_load hT rfl rfl rfl rfl rfl rfl rfl rfl rfl ?_) | refine gi_plain ?_ | refine gi_inBlock ?_))
            exact on3 _ hst _ _ _ ⟨rfl, rfl, rfl, rfl, rfl, rfl, rfl, trivial⟩ ⟨rfl, trivial⟩ trivial
          · rw [if_neg (fun h => c2 h.2)] at hst
            (repeat (first | refine r_end ?_ | (refine r_op ?_; refine r_pure hT rfl rfl rfl rfl rfl rfl ?_) | refine gi_plain ?_ | refine gi_skip ?_ | refine gi_inBlock ?_))
            exact on3 _ hst _ _ _ ⟨rfl, rfl, rfl, rfl, rfl, rfl, rfl, trivial⟩ ⟨rfl, trivial⟩ trivial
        · rw [eqB_eq] at c1
          have c1 : ¬ e.f.k = 2 := of_decide_eq_false c1
          rw [if_neg (fun h => c1 h.1)] at hst
          (repeat (first | refine r_end ?_ | (refine r_op ?_; first | refine r_pure hT rfl rfl rfl rfl rfl rfl ?_ | refine r_off rfl rfl rfl rfl rfl ?_) | refine gi_plain ?_ | refine gi_skip ?_ | refine gi_inBlock ?_ | (refine gi_cnd ?_; first | refine gi_true rfl ?_ | refine gi_false rfl ?_)))
          exact on3 _ hst _ _ _ ⟨rfl, rfl, rfl, rfl, rfl, rfl, rfl, trivial⟩ ⟨rfl, trivial⟩ trivial
      · rw [List.length_map] at h5
        have hjl : j = (mapL l).es.length := by omega
        subst hjl
        rw [nxN_all]
        clear next3
        (repeat (first | (refine r_op ?_; refine r_pure hT rfl rfl rfl rfl rfl rfl ?_) | refine gi_seq ?_ | refine gi_plain ?_ | refine gi_exit rfl ?_))
        refine r_idx (row := x.row) hT rfl rfl rfl rfl rfl rfl rfl rfl rfl rfl rfl rfl (nn k) (by simp [hx]) ?_
        (repeat (first | refine r_end ?_ | (refine r_op ?_; first | refine r_pure hT rfl rfl rfl rfl rfl rfl ?_ | refine r_load hT rfl rfl rfl rfl rfl rfl rfl rfl rfl ?_)))
        refine gi_eq (p := x.n) (q := 0) rfl (fun c1 => ?_) (fun c1 => ?_)
        · (repeat (first | refine r_end ?_ | (refine r_op ?_; refine r_pure hT rfl rfl rfl rfl rfl rfl ?_) | refine gi_plain ?_ | refine gi_exit rfl ?_))
          exact on _ _ _ ⟨rfl, rfl, rfl, rfl, rfl, trivial⟩ ⟨rfl, trivial⟩ trivial
        have hy := hhx c1
        have hRo := hRn (nxF (mapL l).es x.n)
        have hol := hRl (nxF (mapL l).es x.n)
        generalize rtsL l (nxF (mapL l).es x.n) = o at hy hRo hol
        have hall := fdN_all hy
        (repeat (first | refine r_end ?_ | (refine r_op ?_; first | refine r_pure hT rfl rfl rfl rfl rfl rfl ?_ | refine r_load hT rfl rfl rfl rfl rfl rfl rfl rfl rfl ?_) | refine gi_seq ?_ | refine gi_plain ?_ | refine gi_skip ?_))
        refine r_callX [] [] (hRo) rfl rfl rfl rfl rfl rfl Try.func30 rfl rfl rfl rfl rfl rfl rfl pFx ?_
        rintro r H1 S1 ⟨rfl, rfl, rfl⟩
        (repeat (first | refine r_end ?_ | (refine r_op ?_; refine r_pure hT rfl rfl rfl rfl rfl rfl ?_) | refine gi_seq ?_))
        refine gi_thaw 17 rfl ?_
        (repeat (first | refine r_end ?_ | (refine r_op ?_; refine r_pure hT rfl rfl rfl rfl rfl rfl ?_) | refine gi_plain ?_ | refine gi_block ?_))
        refine gi_loop (σ := Nat) (fun j => [(18, I (j : Int)), (16, Bo (fdN o x j)), (17, rsRt o), (12, I (k : Int)), (11, rsRt L), (10, I (i : Int)), (9, .box 0 0), (0, u8 n)]) (fun _ => [hMf (mapL l)]) (fun _ => []) (fun j => j ≤ o.length) (fun j => o.length - j) 0 (Nat.zero_le _) ⟨rfl, rfl, rfl, rfl, rfl, rfl, rfl, rfl, trivial⟩ ⟨rfl, trivial⟩ trivial (fun _ => rfl) (fun j hj next4 => ?_)
        have hj : j ≤ o.length := hj
        (repeat (first | refine r_end ?_ | (refine r_op ?_; refine r_pure hT rfl rfl rfl rfl rfl rfl ?_) | refine gi_seq ?_ | refine gi_plain ?_))
        refine gi_lt (p := (j : Int)) (q := ((o.map Rt.row).length : Int)) rfl (fun h6 => ?_) (fun h6 => ?_)
        · rw [List.length_map] at h6
          have hjo : j < o.length := by omega
          obtain ⟨y, hy⟩ : ∃ y, o[j]? = some y := ⟨_, List.getElem?_eq_getElem hjo⟩
          have hst := fdN_step (x := x) hy
          have on4 : ∀ b, fdN o x (j + 1) = b → ∀ F1 H1 S1, SubF [(18, I (wr .i64 ((j : Int) + 1))), (16, Bo b), (17, rsRt o), (12, I (k : Int)), (11, rsRt L), (10, I (i : Int)), (9, .box 0 0), (0, u8 n)] F1 → SubH [hMf (mapL l)] H1 → SubS [] S1 → GI _ _ F1 H1 S1 := fun b hb F1 H1 S1 hF hH hS => by
            refine next4 (j + 1) F1 H1 S1 (by omega) (by omega) ?_ hH hS
            rw [wadd1 (by omega)] at hF
            rw [hb]
            exact hF
          clear next4 on
          (repeat (first | refine gi_seq ?_ | refine gi_skip ?_ | refine gi_block ?_))
          refine gi_drawM [] [(0, .p), (1, .p), (2, .p), (3, .p), (4, .p), (5, .p), (7, .p), (8, .p), (9, .p), (10, .p), (6, .t), (11, .t), (12, .p), (13, .p), (14, .p), (15, .p), (16, .p), (17, .p), (19, .p), (20, .p), (21, .p), (22, .p), (18, .t), (23, .t), (24, .p), (25, .p), (26, .p), (27, .p), (28, .p), (29, .p), (30, .p), (32, .p), (33, .p), (34, .p), (35, .p), (31, .t), (36, .t), (37, .p), (38, .p), (39, .p), (40, .p)] [0, 1, 2, 2, 14, 18, 34, 2, 2, 386, 514, 1026, 2114, 4098, 8192, 8192, 57344, 73728, 139264, 8192, 8192, 1581056, 2105344, 4202496, 8658944, 16785410, 33562626, 67108864, 67108864, 469762048, 603979776, 1140850688, 67108864, 67108864, 12952010752, 17246978048, 34426847232, 70934069248, 137506062338, 274877906946, 1099511627775] [0, 1, 2, 2, 14, 18, 34, 2, 2, 386, 514, 1026, 2114, 4098, 8192, 8192, 57344, 73728, 139264, 8192, 8192, 1581056, 2105344, 4202496, 8658944, 16785410, 33554434, 67108864, 67108864, 469762048, 603979776, 1140850688, 67108864, 67108864, 12952010752, 17246978048, 34426847232, 70934069248, 137506062338, 274877906946, 549755813889] Kt.hm rfl (by kernel_rfl) (fun w1 K => ?_)
          (repeat ((refine r_op ?_; refine r_pure hT rfl rfl rfl rfl rfl rfl ?_)))
          refine r_case (d := 92) rfl (fun c2 => ?_) (fun c2 => ?_)
          · rw [c2] at hst
            (repeat (first | refine r_end ?_ | (refine r_op ?_; first | refine r_pure hT rfl rfl rfl rfl rfl rfl ?_ | refine r_off rfl rfl rfl rfl rfl ?_) | refine gi_plain ?_ | refine gi_inBlock ?_))
            exact on4 true hst _ _ _ ⟨rfl, rfl, rfl, rfl, rfl, rfl, rfl, rfl, trivial⟩ ⟨rfl, trivial⟩ trivial
          · rw [c2] at hst
            (repeat ((refine r_op ?_; refine r_pure hT rfl rfl rfl rfl rfl rfl ?_)))
            refine r_idx (row := y.row) hT rfl rfl rfl rfl rfl rfl rfl rfl rfl rfl rfl rfl (nn j) (by simp [hy]) ?_
            (repeat ((refine r_op ?_; refine r_pure hT rfl rfl rfl rfl rfl rfl ?_)))
            refine r_idx (row := x.row) hT rfl rfl rfl rfl rfl rfl rfl rfl rfl rfl rfl rfl (nn k) (by simp [hx]) ?_
            (repeat ((refine r_op ?_; first | refine r_pure hT rfl rfl rfl rfl rfl rfl ?_ | refine r_load hT rfl rfl rfl rfl rfl rfl rfl rfl rfl ?_)))
            refine r_case (d := 104) rfl (fun c3 => ?_) (fun c3 => ?_)
            · rw [c3] at hst
              (repeat ((refine r_op ?_; refine r_pure hT rfl rfl rfl rfl rfl rfl ?_)))
              refine r_idx (row := y.row) hT rfl rfl rfl rfl rfl rfl rfl rfl rfl rfl rfl rfl (nn j) (by simp [hy]) ?_
              (repeat ((refine r_op ?_; refine r_pure hT rfl rfl rfl rfl rfl rfl ?_)))
              refine r_idx (row := x.row) hT rfl rfl rfl rfl rfl rfl rfl rfl rfl rfl rfl rfl (nn k) (by simp [hx]) ?_
              (repeat ((refine r_op ?_; first | refine r_pure hT rfl rfl rfl rfl rfl rfl ?_ | refine r_load hT rfl rfl rfl rfl rfl rfl rfl rfl rfl ?_)))
              refine r_case (d := 117) rfl (fun c4 => ?_) (fun c4 => ?_)
              · rw [c4] at hst
                (repeat ((refine r_op ?_; refine r_pure hT rfl rfl rfl rfl rfl rfl ?_)))
                refine r_idx (row := y.row) hT rfl rfl rfl rfl rfl rfl rfl rfl rfl rfl rfl rfl (nn j) (by simp [hy]) ?_
                (repeat ((refine r_op ?_; refine r_pure hT rfl rfl rfl rfl rfl rfl ?_)))
                refine r_idx (row := x.row) hT rfl rfl rfl rfl rfl rfl rfl rfl rfl rfl rfl rfl (nn k) (by simp [hx]) ?_
                (repeat (first | refine r_end ?_ | (refine r_op ?_; first | refine r_pure hT rfl rfl rfl rfl rfl rfl ?_ | refine r_load hT rfl rfl rfl rfl rfl rfl rfl rfl rfl ?_) | refine gi_plain ?_ | refine gi_inBlock ?_))
                exact on4 _ hst _ _ _ ⟨rfl, rfl, rfl, rfl, rfl, rfl, rfl, rfl, trivial⟩ ⟨rfl, trivial⟩ trivial
              · rw [c4] at hst
                (repeat (first | refine r_end ?_ | (refine r_op ?_; first | refine r_pure hT rfl rfl rfl rfl rfl rfl ?_ | refine r_off rfl rfl rfl rfl rfl ?_) | refine gi_plain ?_ | refine gi_inBlock ?_))
                exact on4 false hst _ _ _ ⟨rfl, rfl, rfl, rfl, rfl, rfl, rfl, rfl, trivial⟩ ⟨rfl, trivial⟩ trivial
            · rw [c3] at hst
              (repeat (first | refine r_end ?_ | (refine r_op ?_; first | refine r_pure hT rfl rfl rfl rfl rfl rfl ?_ | refine r_off rfl rfl rfl rfl rfl ?_) | refine gi_plain ?_ | refine gi_inBlock ?_))
              exact on4 false hst _ _ _ ⟨rfl, rfl, rfl, rfl, rfl, rfl, rfl, rfl, trivial⟩ ⟨rfl, trivial⟩ trivial
        · rw [List.length_map] at h6
          have hjo : j = o.length := by omega
          subst hjo
          rw [hall]
          clear next4
          (repeat (first | refine r_end ?_ | (refine r_op ?_; refine r_pure hT rfl rfl rfl rfl rfl rfl ?_) | refine gi_seq ?_ | refine gi_plain ?_ | refine gi_exit rfl ?_))
          refine gi_known (d := 132) (b := false) rfl (by rw [notB_eq]; rfl) ?_
          (repeat (first | refine r_end ?_ | (refine r_op ?_; refine r_pure hT rfl rfl rfl rfl rfl rfl ?_) | refine gi_plain ?_ | refine gi_skip ?_ | refine gi_inBlock ?_ | (refine gi_cnd ?_; first | refine gi_true rfl ?_ | refine gi_false rfl ?_)))
          exact on _ _ _ ⟨rfl, rfl, rfl, rfl, rfl, trivial⟩ ⟨rfl, trivial⟩ trivial
    · (repeat (first | refine r_end ?_ | (refine r_op ?_; refine r_pure hT rfl rfl rfl rfl rfl rfl ?_) | refine gi_plain ?_ | refine gi_inBlock ?_ | refine gi_exit rfl ?_))
      refine next (i + 1) _ _ _ (by omega) (by omega) ⟨?_, rfl, rfl, trivial⟩ ⟨rfl, trivial⟩ trivial
      show some (I (wr .i64 ((i : Int) + 1))) = _
      rw [wadd1 (by omega)]
  · clear next
    (repeat (first | refine gi_seq ?_ | refine gi_plain ?_ | refine gi_exit rfl ?_))
    refine r_call (awake19_ok) rfl rfl rfl rfl rfl rfl rfl rfl Try.func32 rfl rfl rfl pB ?_
    rintro r S1 ⟨rfl, rfl⟩
    (repeat (first | refine r_end ?_ | (refine r_op ?_; refine r_pure hT rfl rfl rfl rfl rfl rfl ?_)))
    refine gi_retW hT Try.func6 rfl rfl [] rfl rfl rfl rfl ?_
    exact ⟨rfl, rfl⟩
end Go.Proofs.Ytmocggibcniggaa.Kt
