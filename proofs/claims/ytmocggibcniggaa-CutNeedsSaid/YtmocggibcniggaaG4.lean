/- Part of the proofs of this seat's statements: what the functions compute. No condition. -/
import Derived.Test.YtmocggibcniggaaG3
import Derived.Test.YtmocggibcniggaaG2
import Derived.Test.YtmocggibcniggaaK4
set_option linter.unusedSimpArgs false
set_option linter.unusedVariables false
namespace Go.Proofs.Ytmocggibcniggaa.Kt
open Go Kw Go.Proofs
attribute [local irreducible] Kw.GI Kw.GR Kw.FnR Kw.FnX Kw.FnI
set_option maxHeartbeats 16000000
set_option maxRecDepth 100000
/-! ### the reference's routes -/
structure Ent where
  v : Vt
  p : Int
  b : Int
  c : Int
def entS (s : Sn) : Ent := ⟨s.v, s.p, s.b, 0⟩
def entB (s : Sb) : Ent := ⟨⟨1, s.r⟩, s.p, s.b, s.c⟩
def ents (m : Mp) : List Ent := m.sn.map entS ++ m.sb.map entB
def rawE (t : List Nd) (E : List Ent) : List Rt := E.foldl (fun L e => putR t L e.v e.p e.b e.c) []
abbrev bRow (b : Bool) : List RV := [.v (.bool b)]
abbrev eBl (l : List Bool) : Option SE := some ⟨4, 1, l.map bRow, false⟩
abbrev eBr (L : List (List RV)) : Option SE := some ⟨4, 1, L, false⟩
abbrev eRr (L : List (List RV)) : Option SE := some ⟨67, 5, L, false⟩
abbrev zRr : List RV := [.v (.int .i64 0), .v (.int .i64 0), .v (.int .i64 0), .v (.int .i64 0), .v (.int .i64 0)]
/-- What the round has found: the list, and whose of Spans they are. -/
structure Rnd (m : Mp) (t : List Nd) (i : Nat) (M : List Rt) (B : List Bool) : Prop where
  eq : M = refR (rawE t ((ents m).take i))
  len : B.length = M.length
  sp : i ≤ m.sn.length → ∀ b ∈ B, b = true
end Go.Proofs.Ytmocggibcniggaa.Kt
namespace Go.Proofs.Ytmocggibcniggaa.Kt
open Go Kw Go.Proofs
set_option maxRecDepth 100000
/-! ### how an edge came into the map -/
inductive Ho (l : List Ls) (e : Eg) : Prop
  | rr (x y : Ls) (q : Lk) : findL l e.f = some x → q ∈ x.lk → q.k = 1 → e.t = ⟨1, q.i⟩ → findL l e.t = some y → e.c = q.c → e.d = q.d → Ho l e
  | rn (x y : Ls) (q : Lk) : findL l e.f = some x → q ∈ x.lk → q.k = 2 → e.t = ⟨2, q.i⟩ → findL l e.t = some y → e.f.i ∈ y.rt → e.c = q.c → e.d = q.d → Ho l e
  | nr (x y : Ls) (q : Lk) : findL l e.f = some x → e.t.k = 1 → e.t.i ∈ x.rt → findL l e.t = some y → backL y.lk 2 e.f.i = some q → e.c = 0 → e.d = q.d → Ho l e
theorem getD_some {α : Type} {o : Option α} {d : α} (h : o.isSome = true) : o = some (o.getD d) := by
  cases o with
  | none => cases h
  | some x => rfl
theorem edRs_how {l : List Ls} {v : Vt} {x : Ls} (hx : findL l v = some x) {e : Eg} : ∀ {j : Nat}, e ∈ edRs l v x.rt j → Ho l e
  | 0, h => by cases h
  | j + 1, h => by
    unfold edRs at h
    rcases List.mem_append.1 h with h | h
    · exact edRs_how hx h
    · split at h
      · rename_i r hr
        unfold edR at h
        split at h
        · cases h
        · split at h
          · rename_i hc
            rw [Bool.and_eq_true] at hc
            rw [List.mem_singleton.1 h]
            exact .nr x _ _ hx rfl (List.mem_of_getElem? hr) (getD_some hc.1) (getD_some hc.2) rfl rfl
          · cases h
      · cases h
theorem from_how {l : List Ls} {v : Vt} {e : Eg} (h : e ∈ fromL l v) : Ho l e := by
  unfold fromL at h
  cases hx : findL l v with
  | none =>
    rw [hx] at h
    cases h
  | some x =>
    rw [hx] at h
    rcases List.mem_append.1 h with h | h
    · obtain ⟨k, hk, hk'⟩ := List.mem_flatMap.1 h
      rcases List.mem_append.1 hk' with h | h
      · unfold edK1 at h
        split at h
        · rename_i h0
          split at h
          · rename_i hc
            rw [Bool.and_eq_true] at hc
            rw [List.mem_singleton.1 h]
            rw [eqB_eq] at h0
            exact .rr x _ k hx hk (by simpa using h0) rfl (getD_some (d := zLs) hc.1) rfl rfl
          · cases h
        · cases h
      · unfold edK2 at h
        split at h
        · rename_i h0
          split at h
          · rename_i hc
            rw [Bool.and_eq_true] at hc
            rw [List.mem_singleton.1 h]
            rw [eqB_eq] at h0
            exact .rn x _ k hx hk (by simpa using h0) rfl (getD_some (d := zLs) hc.1) (by simpa using hc.2) rfl rfl
          · cases h
        · cases h
    · exact edRs_how hx h
theorem map_how {l : List Ls} {e : Eg} (h : e ∈ (mapL l).es) : Ho l e := by
  obtain ⟨v, _, hv⟩ := List.mem_flatMap.1 h
  exact from_how hv
theorem back_is {lk : List Lk} {k i : Int} {q : Lk} (h : backL lk k i = some q) : q ∈ lk ∧ q.k = k ∧ q.i = i := by
  unfold backL at h
  have h1 := List.find?_some h
  unfold bkP at h1
  rw [Bool.and_eq_true] at h1
  exact ⟨List.mem_of_find?_eq_some h, of_decide_eq_true h1.1, of_decide_eq_true h1.2⟩
/-! ### what Graph's links are like -/
/-- Of router r, of k. -/
structure LkG (k r : Int) (q : Lk) : Prop where
  pos : 1 ≤ q.c
  ten : q.c ≤ 10
  kd : (q.k = 1 ∧ 1 ≤ q.i ∧ q.i ≤ k ∧ q.i ≠ r ∧ 1000 ≤ q.d ∧ q.d ≤ 2036) ∨ (q.k = 2 ∧ q.d = q.i + r ∧ q.i % 256 = 0 ∧ 25856 ≤ q.i ∧ q.i ≤ 27648) ∨ (q.k = 3 ∧ q.i = 256 * (200 + r) ∧ q.d = 4294967040)
structure GsG (k : Nat) (gs : List Ls) : Prop where
  len : gs.length = k
  el : ∀ (j : Nat) (x : Ls), gs[j]? = some x → x = ⟨0, 1, (j : Int) + 1, (j : Int) + 1, 0, 0, 0, 0, x.lk, 0, [], []⟩ ∧ ∀ q ∈ x.lk, LkG k ((j : Int) + 1) q
theorem GsG.add {k : Nat} {gs : List Ls} (h : GsG k gs) {a : Nat} {x : Ls} (hx : gs[a]? = some x) {q : Lk} (hq : LkG k ((a : Int) + 1) q) : GsG k (gs.set a (x.add q)) := by
  refine ⟨by rw [List.length_set]; exact h.len, fun j y hy => ?_⟩
  rcases get_set hy with ⟨rfl, rfl, _⟩ | ⟨_, hy⟩
  · obtain ⟨h1, h2⟩ := h.el a x hx
    refine ⟨by unfold Ls.add; rw [h1], fun q' hq' => ?_⟩
    rcases List.mem_append.1 hq' with hq' | hq'
    · exact h2 q' hq'
    · rw [List.mem_singleton.1 hq']; exact hq
  · exact h.el j y hy
theorem Gp.g {k P : Nat} {non : Bool} {i : Nat} {gs : List Ls} (h : Gp k P non i gs) : GsG k gs := by
  induction h with
  | start =>
    refine ⟨by simp, fun j x hx => ?_⟩
    rw [List.getElem?_map] at hx
    cases hr : (List.range k)[j]? with
    | none => rw [hr] at hx; cases hx
    | some z =>
      rw [hr] at hx
      cases hx
      obtain ⟨_, rfl⟩ := List.getElem?_eq_some_iff.1 hr
      rw [List.getElem_range]
      exact ⟨rfl, fun q hq => (nomatch hq)⟩
  | skip _ _ _ ih => exact ih
  | one _ _ h3 h4 h5 h6 h7 h8 _ ih =>
    obtain ⟨q1, q2, q3, q4, q5⟩ := h8
    exact ih.add h7 ⟨q4, by omega, .inl ⟨q1, by omega, by omega, by omega, by omega, by omega⟩⟩
  | two _ _ h3 h4 h5 h6 h7 h8 h9 h10 ih =>
    obtain ⟨q1, q2, q3, q4, q5⟩ := h8
    obtain ⟨r1, r2, r3, r4, r5⟩ := h10
    exact (ih.add h7 ⟨q4, by omega, .inl ⟨q1, by omega, by omega, by omega, by omega, by omega⟩⟩).add h9 ⟨r4, by omega, .inl ⟨r1, by omega, by omega, by omega, by omega, by omega⟩⟩
theorem Gn.lt {k P Q : Nat} {non : Bool} {i : Nat} {gs ns : List Ls} {o : Option (Nat × List Int)} (h : Gn k P Q non i gs ns o) : i ≤ 8 ∧ (o.isSome = true → i < 8) := by
  induction h with
  | start _ => exact ⟨by omega, fun h => by cases h⟩
  | into _ _ h2 _ => exact ⟨by omega, fun _ => h2⟩
  | skip _ _ ih => exact ⟨ih.1, fun _ => ih.2 rfl⟩
  | half _ _ _ _ ih => exact ⟨ih.1, fun _ => ih.2 rfl⟩
  | full _ _ _ _ _ ih => exact ⟨ih.1, fun _ => ih.2 rfl⟩
  | out _ _ _ ih => exact ⟨by have := ih.2 rfl; omega, fun h => by cases h⟩
theorem Gn.g {k P Q : Nat} {non : Bool} {i : Nat} {gs ns : List Ls} {o : Option (Nat × List Int)} (h : Gn k P Q non i gs ns o) : GsG k gs := by
  induction h with
  | start h => exact h.g
  | into _ _ _ ih => exact ih
  | skip _ _ ih => exact ih
  | half _ _ _ _ ih => exact ih
  | full h0 h1 h2 h3 _ ih =>
    have := h0.lt.2 rfl
    obtain ⟨q1, q2, q3, q4, q5⟩ := h3
    exact ih.add h2 ⟨q4, by omega, .inr (.inl ⟨q1, by omega, by omega, by omega, by omega⟩)⟩
  | out _ _ _ ih => exact ih
theorem Gf.g {k P Q : Nat} {non : Bool} {r : Nat} {gs ns : List Ls} (h : Gf k P Q non r gs ns) : GsG k gs := by
  induction h with
  | start h => exact h.g
  | stub _ _ h2 h3 ih =>
    obtain ⟨q1, q2, q3, q4, q5⟩ := h3
    exact ih.add h2 ⟨q4, by omega, .inr (.inr ⟨q1, by omega, q3⟩)⟩
/-- The networks: which are there, whose they are. -/
structure NsG (k : Nat) (i : Nat) (ns : List Ls) : Prop where
  len : ns.length = i
  el : ∀ (j : Nat) (y : Ls), ns[j]? = some y → y = ⟨0, 2, 256 * (101 + (j : Int)), y.adv, 0, 0, 0, 0, [], 24, y.rt, []⟩ ∧ (∀ z ∈ y.rt, 1 ≤ z ∧ z ≤ (k : Int)) ∧ y.rt.Nodup
theorem Gn.n {k P Q : Nat} {non : Bool} {i : Nat} {gs ns : List Ls} {o : Option (Nat × List Int)} (h : Gn k P Q non i gs ns o) : NsG k i ns ∧ ∀ r rt, o = some (r, rt) → r ≤ k ∧ (∀ z ∈ rt, 1 ≤ z ∧ z ≤ (r : Int)) ∧ rt.Nodup := by
  have snoc : ∀ {r : Nat} {rt : List Int} {z : Int}, z = (r : Int) + 1 → r < k → (r ≤ k ∧ (∀ z ∈ rt, 1 ≤ z ∧ z ≤ (r : Int)) ∧ rt.Nodup) → (r + 1 ≤ k ∧ (∀ y ∈ rt ++ [z], 1 ≤ y ∧ y ≤ ((r + 1 : Nat) : Int)) ∧ (rt ++ [z]).Nodup) := by
    rintro r rt z rfl hr ⟨_, h1, h2⟩
    refine ⟨by omega, fun y hy => ?_, ?_⟩
    · rcases List.mem_append.1 hy with hy | hy
      · have := h1 y hy; omega
      · rw [List.mem_singleton.1 hy]; omega
    · rw [List.nodup_append]
      refine ⟨h2, by simp, fun a ha b hb => ?_⟩
      rw [List.mem_singleton.1 hb]
      have := h1 a ha
      omega
  induction h with
  | start h => exact ⟨⟨rfl, fun j y hy => by simp at hy⟩, fun r rt h => by cases h⟩
  | into _ _ _ ih => exact ⟨ih.1, fun r rt h => by cases h; exact ⟨by omega, fun z hz => (nomatch hz), List.nodup_nil⟩⟩
  | skip _ h1 ih => exact ⟨ih.1, fun r rt h => by
      cases h
      obtain ⟨h2, h3, h4⟩ := ih.2 _ _ rfl
      exact ⟨by omega, fun z hz => by have := h3 z hz; omega, h4⟩⟩
  | half _ h1 _ hz ih => exact ⟨ih.1, fun r rt h => by cases h; exact snoc hz h1 (ih.2 _ _ rfl)⟩
  | full _ h1 _ _ hz ih => exact ⟨ih.1, fun r rt h => by cases h; exact snoc hz h1 (ih.2 _ _ rfl)⟩
  | out _ h2 h3 ih =>
    obtain ⟨⟨a1, a2⟩, a3⟩ := ih
    obtain ⟨b1, b2, b3⟩ := a3 _ _ rfl
    refine ⟨⟨by rw [List.length_append, a1]; rfl, fun j y hy => ?_⟩, fun r rt h => by cases h⟩
    rcases get_snoc hy with hy | ⟨rfl, rfl⟩
    · exact a2 j y hy
    · exact ⟨by rw [a1, ← h2], b2, b3⟩
theorem Gf.n {k P Q : Nat} {non : Bool} {r : Nat} {gs ns : List Ls} (h : Gf k P Q non r gs ns) : NsG k ns.length ns ∧ ns.length ≤ 8 := by
  induction h with
  | start h =>
    have := h.n.1
    rw [this.len]
    exact ⟨this, h.lt.1⟩
  | stub _ _ _ _ ih => exact ih
/-- What the edges of Graph's map are like. -/
structure EdG (k : Int) (e : Eg) : Prop where
  kd : e.f.k = 1 ∨ e.f.k = 2
  up : e.f.k = 1 → 1 ≤ e.c
  dn : e.f.k = 2 → e.c = 0 ∧ e.t.k = 1 ∧ e.d = e.f.i + e.t.i ∧ e.f.i % 256 = 0 ∧ 25856 ≤ e.f.i
  to : e.t.k = 1 → 1 ≤ e.t.i ∧ e.t.i ≤ k
theorem Mde.find {n : Int} {P Q : Nat} {non : Bool} {l : List Ls} (h : Mde n P Q non l) {v : Vt} {x : Ls} (hx : findL l v = some x) : (v.k = 1 ∧ 1 ≤ v.i ∧ v.i ≤ 1 + n % 6 ∧ x.rt = [] ∧ ∀ q ∈ x.lk, LkG (1 + n % 6) v.i q) ∨ (v.k = 2 ∧ x.lk = [] ∧ v.i % 256 = 0 ∧ 25856 ≤ v.i ∧ ∀ z ∈ x.rt, 1 ≤ z ∧ z ≤ 1 + n % 6) := by
  obtain ⟨k, gs, ns, hk, rfl, hf⟩ := h.ex
  obtain ⟨h1, h2, h3, h4⟩ := find_is hx
  unfold isV at h3
  rw [Bool.or_eq_true, Bool.and_eq_true, Bool.and_eq_true, Bool.and_eq_true] at h3
  rcases List.mem_append.1 h1 with h1 | h1
  · obtain ⟨j, hj⟩ := List.mem_iff_getElem?.1 h1
    obtain ⟨e1, e2⟩ := hf.g.el j x hj
    have hjl := (List.getElem?_eq_some_iff.1 hj).1
    have hl := hf.g.len
    have hxk : x.kind = 1 := by rw [e1]
    have hxi : x.id = (j : Int) + 1 := by rw [e1]
    rcases h3 with ⟨a, _, _⟩ | ⟨_, a⟩
    · have a := of_decide_eq_true a
      refine .inl ⟨a, by omega, by omega, by rw [e1], ?_⟩
      rw [← h4, hxi, ← hk]
      exact e2
    · have a := of_decide_eq_true a
      omega
  · obtain ⟨j, hj⟩ := List.mem_iff_getElem?.1 h1
    obtain ⟨e1, e2, _⟩ := hf.n.1.el j x hj
    have hxk : x.kind = 2 := by rw [e1]
    have hxi : x.id = 256 * (101 + (j : Int)) := by rw [e1]
    rcases h3 with ⟨_, a, _⟩ | ⟨a, _⟩
    · have a := of_decide_eq_true a
      omega
    · have a := of_decide_eq_true a
      refine .inr ⟨a, by rw [e1], by omega, by omega, ?_⟩
      rw [← hk]
      exact e2
theorem Mde.edge {n : Int} {P Q : Nat} {non : Bool} {l : List Ls} (h : Mde n P Q non l) {e : Eg} (he : e ∈ (mapL l).es) : EdG (1 + n % 6) e := by
  cases map_how he with
  | rr x y q h1 h2 h3 h4 h5 h6 h7 =>
    rcases h.find h1 with ⟨a1, _, _, _, a5⟩ | ⟨_, a2, _⟩
    · have hq := a5 q h2
      refine ⟨.inl a1, fun _ => by rw [h6]; exact hq.pos, fun a => by omega, fun _ => ?_⟩
      rcases h.find h5 with ⟨_, b1, b2, _⟩ | ⟨b1, _⟩
      · exact ⟨b1, b2⟩
      · rw [h4] at b1; cases b1
    · rw [a2] at h2; cases h2
  | rn x y q h1 h2 h3 h4 h5 h6 h7 h8 =>
    rcases h.find h1 with ⟨a1, _, _, _, a5⟩ | ⟨_, a2, _⟩
    · have hq := a5 q h2
      exact ⟨.inl a1, fun _ => by rw [h7]; exact hq.pos, fun a => by omega, fun a => by rw [h4] at a; cases a⟩
    · rw [a2] at h2; cases h2
  | nr x y q h1 h2 h3 h4 h5 h6 h7 =>
    rcases h.find h1 with ⟨_, _, _, a4, _⟩ | ⟨a1, a2, a3, a4, a5⟩
    · rw [a4] at h3; cases h3
    · obtain ⟨q1, q2, q3⟩ := back_is h5
      rcases h.find h4 with ⟨_, b1, b2, _, b5⟩ | ⟨b1, _⟩
      · have hq := b5 q q1
        have hd : q.d = q.i + e.t.i := by
          rcases hq.kd with ⟨c, _⟩ | ⟨_, c, _⟩ | ⟨c, _⟩
          · omega
          · exact c
          · omega
        exact ⟨.inr a1, fun a => by omega, fun _ => ⟨h6, h2, by rw [h7, hd, q3], a3, a4⟩, fun _ => ⟨b1, b2⟩⟩
      · omega
end Go.Proofs.Ytmocggibcniggaa.Kt
namespace Go.Proofs.Ytmocggibcniggaa.Kt
open Go Kw Go.Proofs
set_option maxHeartbeats 4000000
set_option maxRecDepth 100000
/-! ### who goes on comes nearer -/
/-- Who is next, behind a look through the edges. -/
def nxF (es : List Eg) (D : Int) : Int := es.foldl (fun a e => if e.f.k = 2 ∧ e.d = D then e.t.i else a) D
theorem getD_at {t : List Nd} {i : Nat} {n : Nd} (h : t[i]? = some n) : t.getD i zNd = n := by rw [List.getD_eq_getElem?_getD, h]; rfl
section
variable {n : Int} {P Q : Nat} {non : Bool} {l : List Ls}
structure HopOk (l : List Ls) (t : List Nd) (i : Nat) (m : Nat) (g : Nd) : Prop where
  lt : m < dep t i i
  gt : t[anc t i m]? = some g
  vs : g.v ∈ (mapL l).vs
  kd : g.v.k = 1
  c : 1 ≤ g.c
  nx : nxF (mapL l).es (hopF t i).2 = g.v.i
end
end Go.Proofs.Ytmocggibcniggaa.Kt
namespace Go.Proofs.Ytmocggibcniggaa.Kt
open Go Kw Go.Proofs
set_option maxHeartbeats 4000000
set_option maxRecDepth 100000
/-! ### a row of routers: its trees -/
/-- Routers 1 to n in a row; cs j is what the link from j to j + 1 costs, either way; up j its Data at j, dn j the other link's; St j: the stubs of j. -/
structure RowL (n : Nat) (cs up dn : Nat → Int) (St : Nat → Lk → Prop) (gs : List Ls) : Prop where
  len : gs.length = n
  el : ∀ (j : Nat) (x : Ls), gs[j]? = some x → x = ⟨0, 1, (j : Int) + 1, (j : Int) + 1, 0, 0, 0, 0, x.lk, 0, [], []⟩ ∧ x.lk.length ≤ 100 ∧
    (∀ q ∈ x.lk, (q.k = 1 ∧ j + 1 < n ∧ q.i = (j : Int) + 2 ∧ q.c = cs j ∧ q.d = up j) ∨ (q.k = 1 ∧ 0 < j ∧ q.i = (j : Int) ∧ q.c = cs (j - 1) ∧ q.d = dn j) ∨ (q.k = 3 ∧ St j q)) ∧
    (j + 1 < n → ∃ q ∈ x.lk, q.k = 1 ∧ q.i = (j : Int) + 2) ∧ (0 < j → ∃ q ∈ x.lk, q.k = 1 ∧ q.i = (j : Int)) ∧ (∀ q, St j q → q ∈ x.lk ∧ q.k = 3)
def prs (cs : Nat → Int) : Nat → Int
  | 0 => 0
  | j + 1 => prs cs j + cs j
theorem find_foldY {v : Vt} : ∀ {l : List Ls} {m : Option Ls}, (m.isSome = true ∨ ∃ x ∈ l, x.age < 3600 ∧ isV v x = true ∧ x.id = v.i) → (l.foldl (fdS v) m).isSome = true
  | [], m, h => by
    rcases h with h | ⟨x, hx, _⟩
    · exact h
    · cases hx
  | y :: l, m, h => by
    rw [List.foldl_cons]
    refine find_foldY ?_
    by_cases hm : (fdS v m y).isSome = true
    · exact .inl hm
    · right
      have hmn : m = none := by
        cases m with
        | none => rfl
        | some z =>
          unfold fdS at hm
          split at hm <;> exact absurd rfl hm
      subst hmn
      rcases h with h | ⟨x, hx, h1, h2, h3⟩
      · cases h
      · rcases List.mem_cons.1 hx with rfl | hx
        · exfalso
          apply hm
          unfold fdS
          rw [if_pos (by simp [h1, h2, h3])]
          rfl
        · exact ⟨x, hx, h1, h2, h3⟩
theorem find_any {l : List Ls} {v : Vt} {x : Ls} (hx : x ∈ l) (h1 : x.age < 3600) (h2 : isV v x = true) (h3 : x.id = v.i) : ∃ y, findL l v = some y :=
  Option.isSome_iff_exists.1 (find_foldY (.inr ⟨x, hx, h1, h2, h3⟩))
section
variable {n : Nat} {cs up dn : Nat → Int} {St : Nat → Lk → Prop} {gs : List Ls}
theorem RowL.find (h : RowL n cs up dn St gs) {v : Vt} {x : Ls} (hx : findL gs v = some x) : ∃ j : Nat, gs[j]? = some x ∧ v = ⟨1, (j : Int) + 1⟩ ∧ j < n := by
  obtain ⟨h1, _, h3, h4⟩ := find_is hx
  obtain ⟨j, hj⟩ := List.mem_iff_getElem?.1 h1
  have hjl := (List.getElem?_eq_some_iff.1 hj).1
  obtain ⟨h5, _⟩ := h.el j x hj
  refine ⟨j, hj, ?_, by rw [← h.len]; exact hjl⟩
  rw [h5] at h3 h4
  unfold isV at h3
  cases v with
  | mk vk vi =>
    simp only [Bool.or_eq_true, Bool.and_eq_true, decide_eq_true_eq] at h3 h4
    rcases h3 with ⟨h3, _⟩ | ⟨_, h3⟩
    · rw [h3, ← h4]
    · exact absurd h3 (by decide)
theorem RowL.find_at (h : RowL n cs up dn St gs) {j : Nat} (hj : j < n) : ∃ x, gs[j]? = some x ∧ findL gs ⟨1, (j : Int) + 1⟩ = some x := by
  obtain ⟨x, hx⟩ : ∃ x, gs[j]? = some x := ⟨_, List.getElem?_eq_getElem (by rw [h.len]; exact hj)⟩
  obtain ⟨h5, _⟩ := h.el j x hx
  obtain ⟨y, hy⟩ := find_any (v := ⟨1, (j : Int) + 1⟩) (List.mem_of_getElem? hx) (by rw [h5]; show (0 : Int) < 3600; decide) (by rw [h5]; simp [isV]) (by rw [h5])
  obtain ⟨j', h1, h2, _⟩ := h.find hy
  have : j' = j := by
    have := congrArg Vt.i h2
    simp only at this
    omega
  subst this
  rw [hx] at h1
  cases h1
  exact ⟨x, hx, hy⟩
theorem RowL.verts (h : RowL n cs up dn St gs) {v : Vt} : v ∈ vertsL gs ↔ ∃ j : Nat, j < n ∧ v = ⟨1, (j : Int) + 1⟩ := by
  rw [verts_mem]
  constructor
  · rintro ⟨x, hx, _, h2⟩
    obtain ⟨j, hj⟩ := List.mem_iff_getElem?.1 hx
    have hjl := (List.getElem?_eq_some_iff.1 hj).1
    obtain ⟨h5, _⟩ := h.el j x hj
    refine ⟨j, by rw [← h.len]; exact hjl, ?_⟩
    rw [h5] at h2
    rcases h2 with ⟨_, _, h2⟩ | ⟨h2, _⟩
    · exact h2
    · exact absurd h2 (by show ¬ (1 : Int) = 2; decide)
  · rintro ⟨j, hj, rfl⟩
    obtain ⟨x, hx, _⟩ := h.find_at hj
    obtain ⟨h5, _⟩ := h.el j x hx
    refine ⟨x, List.mem_of_getElem? hx, by rw [h5]; show (0 : Int) < 3600; decide, .inl ⟨by rw [h5], by rw [h5], by rw [h5]⟩⟩
theorem RowL.few (h : RowL n cs up dn St gs) (hn : n ≤ 1000) : Few gs := by
  refine ⟨by rw [h.len]; exact hn, fun x hx => ?_, fun x hx => ?_⟩
  · obtain ⟨j, hj⟩ := List.mem_iff_getElem?.1 hx
    have := (h.el j x hj).2.1
    omega
  · obtain ⟨j, hj⟩ := List.mem_iff_getElem?.1 hx
    rw [(h.el j x hj).1]; exact Nat.zero_le _
/-- An edge leads to a neighbour. -/
theorem RowL.edge (h : RowL n cs up dn St gs) {e : Eg} (he : e ∈ (mapL gs).es) : ∃ j : Nat, j < n ∧ e.f = ⟨1, (j : Int) + 1⟩ ∧ ((j + 1 < n ∧ e.t = ⟨1, (j : Int) + 2⟩ ∧ e.c = cs j ∧ e.d = up j) ∨ (0 < j ∧ e.t = ⟨1, (j : Int)⟩ ∧ e.c = cs (j - 1) ∧ e.d = dn j)) := by
  cases map_how he with
  | rr x y q h1 h2 h3 h4 h5 h6 h7 =>
    obtain ⟨j, hj, hv, hjn⟩ := h.find h1
    obtain ⟨_, _, e3, _⟩ := h.el j x hj
    refine ⟨j, hjn, hv, ?_⟩
    rcases e3 q h2 with ⟨_, a, b, c, d⟩ | ⟨_, a, b, c, d⟩ | ⟨a, _⟩
    · exact .inl ⟨a, by rw [h4, b], by rw [h6, c], by rw [h7, d]⟩
    · exact .inr ⟨a, by rw [h4, b], by rw [h6, c], by rw [h7, d]⟩
    · omega
  | rn x y q h1 h2 h3 h4 h5 h6 h7 h8 =>
    obtain ⟨j, hj, hv, hjn⟩ := h.find h5
    rw [h4] at hv
    cases hv
  | nr x y q h1 h2 h3 h4 h5 h6 h7 =>
    obtain ⟨j, hj, hv, hjn⟩ := h.find h1
    obtain ⟨e1, _⟩ := h.el j x hj
    rw [e1] at h3
    cases h3
theorem RowL.edge_up (h : RowL n cs up dn St gs) {j : Nat} (hj : j + 1 < n) : (∃ e ∈ (mapL gs).es, e.f = ⟨1, (j : Int) + 1⟩ ∧ e.t = ⟨1, (j : Int) + 2⟩) ∧ (∃ e ∈ (mapL gs).es, e.f = ⟨1, (j : Int) + 2⟩ ∧ e.t = ⟨1, (j : Int) + 1⟩) := by
  obtain ⟨x, hx, hfx⟩ := h.find_at (j := j) (by omega)
  obtain ⟨y, hy, hfy⟩ := h.find_at hj
  rw [show (((j + 1 : Nat) : Int) + 1) = (j : Int) + 2 by omega] at hfy
  obtain ⟨_, _, _, g6, _⟩ := h.el j x hx
  obtain ⟨_, _, _, _, g7, _⟩ := h.el (j + 1) y hy
  obtain ⟨q, hq1, hq2, hq3⟩ := g6 hj
  obtain ⟨r, hr1, hr2, hr3⟩ := g7 (by omega)
  have hr3 : r.i = (j : Int) + 1 := by omega
  have mk : ∀ {u v : Int} {x y : Ls} {q r : Lk}, (⟨1, u⟩ : Vt) ∈ vertsL gs → findL gs ⟨1, u⟩ = some x → findL gs ⟨1, v⟩ = some y → q ∈ x.lk → q.k = 1 → q.i = v → r ∈ y.lk → r.k = 1 → r.i = u → ∃ e ∈ (mapL gs).es, e.f = ⟨1, u⟩ ∧ e.t = ⟨1, v⟩ := by
    intro u v x y q r hu hx hy a1 a2 a3 b1 b2 b3
    refine ⟨⟨⟨1, u⟩, ⟨1, q.i⟩, q.c, q.d⟩, List.mem_flatMap.2 ⟨⟨1, u⟩, hu, ?_⟩, rfl, by rw [a3]⟩
    unfold fromL
    rw [hx]
    refine List.mem_append_left _ (List.mem_flatMap.2 ⟨q, a1, List.mem_append_left _ ?_⟩)
    have hb : (backL y.lk 1 u).isSome = true := by
      unfold backL
      rw [List.find?_isSome]
      exact ⟨r, b1, by unfold bkP; rw [b2, b3]; simp⟩
    unfold edK1
    rw [eqB_eq, a2, a3, hy]
    simp [hb]
  exact ⟨mk (h.verts.2 ⟨j, by omega, rfl⟩) hfx hfy hq1 hq2 hq3 hr1 hr2 hr3, mk (h.verts.2 ⟨j + 1, hj, by congr 1⟩) hfy hfx hr1 hr2 hr3 hq1 hq2 hq3⟩
end
def dst (cs : Nat → Int) (r j : Nat) : Int := if r ≤ j then prs cs j - prs cs r else prs cs r - prs cs j
theorem dst_self (cs : Nat → Int) (r : Nat) : dst cs r r = 0 := by unfold dst; rw [if_pos (Nat.le_refl r)]; omega
theorem dst_step {cs : Nat → Int} {n r : Nat} (hc : ∀ j, j + 1 < n → 1 ≤ cs j ∧ cs j ≤ 256) {j : Nat} (hj : j + 1 < n) (hr : r < n) : (r ≤ j → dst cs r (j + 1) = dst cs r j + cs j) ∧ (j < r → dst cs r j = dst cs r (j + 1) + cs j) := by
  have e : prs cs (j + 1) = prs cs j + cs j := rfl
  unfold dst
  constructor
  · intro h
    rw [if_pos h, if_pos (by omega), e]
    omega
  · intro h
    rw [if_neg (by omega)]
    by_cases h1 : r ≤ j + 1
    · have : r = j + 1 := by omega
      subst this
      rw [if_pos (Nat.le_refl _), e]
      omega
    · rw [if_neg h1, e]
      omega
section
variable {n : Nat} {cs up dn : Nat → Int} {St : Nat → Lk → Prop} {gs : List Ls} {r : Nat} {t : List Nd}
theorem RowL.costs (h : RowL n cs up dn St gs) (hc : ∀ j, j + 1 < n → 1 ≤ cs j ∧ cs j ≤ 256) : ∀ e ∈ (mapL gs).es, 0 ≤ e.c ∧ e.c ≤ 1000000 := fun e he => by
  obtain ⟨j, hj, _, (⟨a, _, b, _⟩ | ⟨a, _, b, _⟩)⟩ := h.edge he
  · have := hc j a; omega
  · have := hc (j - 1) (by omega); omega
/-- Each of the row is in the tree, at what lies between. -/
theorem RowL.at_ (h : RowL n cs up dn St gs) (hc : ∀ j, j + 1 < n → 1 ≤ cs j ∧ cs j ≤ 256) (hn : n ≤ 1000) (hr : r < n) (hT : Tr gs ⟨1, (r : Int) + 1⟩ t) : ∀ j, j < n → ∃ (a : Nat) (x : Nd), t[a]? = some x ∧ x.v = ⟨1, (j : Int) + 1⟩ ∧ x.c = dst cs r j := by
  have hes := h.costs hc
  have up1 : ∀ (j : Nat), j < n → ∃ (a : Nat) (x : Nd), t[a]? = some x ∧ x.v = ⟨1, (j : Int) + 1⟩ ∧ x.c ≤ dst cs r j := by
    have hstep : ∀ {u v : Int} {e : Eg}, e ∈ (mapL gs).es → e.f = ⟨1, u⟩ → e.t = ⟨1, v⟩ → (∃ (a : Nat) (x : Nd), t[a]? = some x ∧ x.v = ⟨1, u⟩) → ∀ {C}, (∃ (a : Nat) (x : Nd), t[a]? = some x ∧ x.v = ⟨1, u⟩ ∧ x.c ≤ C) → ∃ (a : Nat) (x : Nd), t[a]? = some x ∧ x.v = ⟨1, v⟩ ∧ x.c ≤ C + e.c := by
      rintro u v e he e1 e2 _ C ⟨a, x, hx, hxv, hxc⟩
      have hpa : placeL t e.f = some a := by rw [e1, ← hxv]; exact hT.gr.place hx
      obtain ⟨b, hb⟩ := closed hT.en he hpa
      obtain ⟨y, hy, hyv⟩ := placeL_some hb
      have := hT.gr.short soon_cheap (C := 1000000) hT.zero hT.len (by omega) hes he hx (hxv.trans e1.symm) hy hyv
      exact ⟨b, y, hy, by rw [hyv, e2], by omega⟩
    have hi : ∀ d, r + d < n → ∃ (a : Nat) (x : Nd), t[a]? = some x ∧ x.v = ⟨1, ((r + d : Nat) : Int) + 1⟩ ∧ x.c ≤ dst cs r (r + d) := by
      intro d
      induction d with
      | zero => intro _; exact ⟨0, _, hT.hd, rfl, by rw [Nat.add_zero, dst_self]; exact Int.le_refl _⟩
      | succ d ih =>
        intro hd
        obtain ⟨a, x, h1, h2, h3⟩ := ih (by omega)
        obtain ⟨⟨e, he, e1, e2⟩, _⟩ := h.edge_up (j := r + d) (by omega)
        obtain ⟨b, y, k1, k2, k3⟩ := hstep he e1 e2 ⟨a, x, h1, h2⟩ ⟨a, x, h1, h2, h3⟩
        have hec : e.c = cs (r + d) := by
          obtain ⟨j, hj, f1, f2⟩ := h.edge he
          rw [e1] at f1
          have := congrArg Vt.i f1
          simp only at this
          have hj' : j = r + d := by omega
          subst hj'
          rcases f2 with ⟨_, _, f3, _⟩ | ⟨_, f3, _⟩
          · exact f3
          · rw [e2] at f3; have := congrArg Vt.i f3; simp only at this; omega
        refine ⟨b, y, k1, by rw [k2]; congr 1, ?_⟩
        have := (dst_step hc (r := r) (j := r + d) (by omega) hr).1 (by omega)
        rw [show r + (d + 1) = r + d + 1 by omega, this, ← hec]
        exact k3
    have lo : ∀ d, d ≤ r → ∃ (a : Nat) (x : Nd), t[a]? = some x ∧ x.v = ⟨1, ((r - d : Nat) : Int) + 1⟩ ∧ x.c ≤ dst cs r (r - d) := by
      intro d
      induction d with
      | zero => intro _; exact ⟨0, _, hT.hd, rfl, by rw [Nat.sub_zero, dst_self]; exact Int.le_refl _⟩
      | succ d ih =>
        intro hd
        obtain ⟨a, x, h1, h2, h3⟩ := ih (by omega)
        obtain ⟨_, ⟨e, he, e1, e2⟩⟩ := h.edge_up (j := r - (d + 1)) (by omega)
        have h2' : x.v = ⟨1, ((r - (d + 1) : Nat) : Int) + 2⟩ := by rw [h2]; congr 1; omega
        obtain ⟨b, y, k1, k2, k3⟩ := hstep he e1 e2 ⟨a, x, h1, h2'⟩ ⟨a, x, h1, h2', h3⟩
        have hec : e.c = cs (r - (d + 1)) := by
          obtain ⟨j, hj, f1, f2⟩ := h.edge he
          rw [e1] at f1
          have := congrArg Vt.i f1
          simp only at this
          have hj' : j = r - (d + 1) + 1 := by omega
          subst hj'
          rcases f2 with ⟨_, f3, _⟩ | ⟨_, _, f3, _⟩
          · rw [e2] at f3; have := congrArg Vt.i f3; simp only at this; omega
          · rw [f3]; rfl
        refine ⟨b, y, k1, k2, ?_⟩
        have := (dst_step hc (r := r) (j := r - (d + 1)) (by omega) hr).2 (by omega)
        rw [this, ← hec, show r - (d + 1) + 1 = r - d by omega]
        exact k3
    intro j hj
    rcases Nat.le_total r j with h1 | h1
    · have := hi (j - r) (by omega)
      rwa [show r + (j - r) = j by omega] at this
    · have := lo (r - j) (by omega)
      rwa [show r - (r - j) = j by omega] at this
  -- from below
  have lw : ∀ (a : Nat) (x : Nd), t[a]? = some x → ∀ (j : Nat), x.v = ⟨1, (j : Int) + 1⟩ → j < n → dst cs r j ≤ x.c := by
    intro a
    induction a using Nat.strongRecOn with
    | _ a ih =>
      intro x hx j hv hj
      rcases Nat.eq_zero_or_pos a with rfl | ha
      · rw [hT.hd] at hx
        cases hx
        have := congrArg Vt.i hv
        have this : ((r : Int) + 1) = (j : Int) + 1 := this
        have hrj : j = r := by omega
        subst hrj
        rw [dst_self]
        exact Int.le_refl _
      · obtain ⟨e, he, p, y, hp, hy, hyv, het, _, hcn, _, _⟩ := hT.gr.edge ha hx
        obtain ⟨i, hi, f1, f2⟩ := h.edge he
        have h1 := ih p hp y hy i (by rw [hyv, f1]) hi
        obtain ⟨c1, c2⟩ := hT.gr.cost (C := 1000000) hT.zero hT.len (by omega) hes p y hy
        obtain ⟨c3, c4⟩ := hes e he
        have hpl := (List.getElem?_eq_some_iff.1 hy).1
        have hl := hT.len
        rw [hcn, wr_i64 (by omega) (by omega)]
        rw [hv] at het
        rcases f2 with ⟨g1, g2, g3, _⟩ | ⟨g1, g2, g3, _⟩
        · rw [het] at g2
          have := congrArg Vt.i g2
          simp only at this
          have hji : j = i + 1 := by omega
          subst hji
          have hs := dst_step hc (r := r) g1 hr
          have := hc i g1
          rcases Nat.lt_or_ge i r with hlt | hge
          · have := hs.2 hlt; omega
          · have := hs.1 hge; omega
        · rw [het] at g2
          have := congrArg Vt.i g2
          simp only at this
          have hji : i = j + 1 := by omega
          subst hji
          have g3 : e.c = cs j := g3
          have hs := dst_step hc (r := r) hi hr
          have := hc j hi
          rcases Nat.lt_or_ge j r with hlt | hge
          · have := hs.2 hlt; omega
          · have := hs.1 hge; omega
  intro j hj
  obtain ⟨a, x, h1, h2, h3⟩ := up1 j hj
  exact ⟨a, x, h1, h2, Int.le_antisymm h3 (lw a x h1 j h2 hj)⟩
/-- Who stands behind the root has its parent one step nearer. -/
theorem RowL.par_up (h : RowL n cs up dn St gs) (hc : ∀ j, j + 1 < n → 1 ≤ cs j ∧ cs j ≤ 256) (hn : n ≤ 1000) (hr : r < n) (hT : Tr gs ⟨1, (r : Int) + 1⟩ t) {a : Nat} {x : Nd} (hx : t[a]? = some x) {j : Nat} (hj : j + 1 < n) (hrj : r ≤ j) (hv : x.v = ⟨1, (j : Int) + 2⟩) : 0 < a ∧ ∃ y, t[par t a]? = some y ∧ y.v = ⟨1, (j : Int) + 1⟩ ∧ x.p = par t a ∧ x.d = up j := by
  have hes := h.costs hc
  have ha : 0 < a := by
    rcases Nat.eq_zero_or_pos a with rfl | ha
    · rw [hT.hd] at hx; cases hx
      have := congrArg Vt.i hv
      have this : ((r : Int) + 1) = (j : Int) + 2 := this
      omega
    · exact ha
  obtain ⟨e, he, p, y, hp, hy, hyv, het, hxp, hcn, hxd, _⟩ := hT.gr.edge ha hx
  have hpar := (par_at hT.tre ha hx).1
  have hpp : par t a = p := by omega
  refine ⟨ha, y, by rw [hpp]; exact hy, ?_, hpar, ?_⟩
  all_goals
    obtain ⟨i, hi, f1, f2⟩ := h.edge he
    obtain ⟨a1, x1, k1, k2, k3⟩ := h.at_ hc hn hr hT (j + 1) hj
    have : a1 = a := hT.gr.inj k1 hx (by rw [k2, hv]; congr 1)
    subst this
    rw [hx] at k1
    cases k1
    obtain ⟨a2, x2, m1, m2, m3⟩ := h.at_ hc hn hr hT i hi
    have : a2 = p := hT.gr.inj m1 hy (by rw [m2, hyv, f1])
    subst this
    rw [hy] at m1
    cases m1
    obtain ⟨c1, c2⟩ := hT.gr.cost (C := 1000000) hT.zero hT.len (by omega) hes a2 y hy
    obtain ⟨c3, c4⟩ := hes e he
    have hpl := (List.getElem?_eq_some_iff.1 hy).1
    have hl := hT.len
    rw [wr_i64 (by omega) (by omega)] at hcn
    rw [hv] at het
    have hij : i = j := by
      rcases f2 with ⟨g1, g2, g3, _⟩ | ⟨g1, g2, g3, _⟩
      · rw [het] at g2
        have := congrArg Vt.i g2
        simp only at this
        omega
      · rw [het] at g2
        have := congrArg Vt.i g2
        simp only at this
        have hi2 : i = j + 2 := by omega
        subst hi2
        have hs := (dst_step hc (r := r) (j := j + 1) (by omega) hr).1 (by omega)
        have hs2 := hc (j + 1) (by omega)
        have g3 : e.c = cs (j + 1) := g3
        have hs : dst cs r (j + 2) = dst cs r (j + 1) + cs (j + 1) := hs
        omega
    subst hij
  · rw [hyv, f1]
  · rcases f2 with ⟨_, _, _, g4⟩ | ⟨g1, g2, _, _⟩
    · rw [hxd, g4]
    · rw [het] at g2
      have := congrArg Vt.i g2
      simp only at this
      omega
/-- The way back. -/
theorem RowL.anc_up (h : RowL n cs up dn St gs) (hc : ∀ j, j + 1 < n → 1 ≤ cs j ∧ cs j ≤ 256) (hn : n ≤ 1000) (hr : r < n) (hT : Tr gs ⟨1, (r : Int) + 1⟩ t) {a : Nat} {x : Nd} (hx : t[a]? = some x) {j : Nat} (hj : j < n) (hrj : r ≤ j) (hv : x.v = ⟨1, (j : Int) + 1⟩) : ∀ m, m ≤ j - r → ∃ y, t[anc t a m]? = some y ∧ y.v = ⟨1, ((j - m : Nat) : Int) + 1⟩ := by
  intro m
  induction m with
  | zero => intro _; exact ⟨x, hx, hv⟩
  | succ m ih =>
    intro hm
    obtain ⟨y, hy, hyv⟩ := ih (by omega)
    obtain ⟨_, z, hz, hzv, _⟩ := h.par_up hc hn hr hT hy (j := j - (m + 1)) (by omega) (by omega) (by rw [hyv]; congr 1; omega)
    exact ⟨z, hz, hzv⟩
theorem RowL.dp (h : RowL n cs up dn St gs) (hc : ∀ j, j + 1 < n → 1 ≤ cs j ∧ cs j ≤ 256) (hn : n ≤ 1000) (hr : r < n) (hT : Tr gs ⟨1, (r : Int) + 1⟩ t) {a : Nat} {x : Nd} (hx : t[a]? = some x) {j : Nat} (hj : j < n) (hrj : r ≤ j) (hv : x.v = ⟨1, (j : Int) + 1⟩) : dep t a a = j - r := by
  have hal := (List.getElem?_eq_some_iff.1 hx).1
  obtain ⟨d1, d2⟩ := dep_spec hT.tre (Nat.le_refl a) hal
  have hA := h.anc_up hc hn hr hT hx hj hrj hv
  have h1 : anc t a (j - r) = 0 := by
    obtain ⟨y, hy, hyv⟩ := hA (j - r) (Nat.le_refl _)
    exact hT.gr.inj hy hT.hd (by rw [hyv]; show _ = (⟨1, (r : Int) + 1⟩ : Vt); congr 1; omega)
  have h2 : ¬ j - r < dep t a a := fun hlt => by have := d2 _ hlt; omega
  have h3 : ¬ dep t a a < j - r := fun hlt => by
    obtain ⟨y, hy, hyv⟩ := hA (dep t a a) (by omega)
    rw [d1, hT.hd] at hy
    cases hy
    have := congrArg Vt.i hyv
    have this : ((r : Int) + 1) = ((j - dep t a a : Nat) : Int) + 1 := this
    omega
  omega
/-- The first hop along a row. -/
theorem RowL.hop (h : RowL n cs up dn St gs) (hc : ∀ j, j + 1 < n → 1 ≤ cs j ∧ cs j ≤ 256) (hn : n ≤ 1000) (hr : r < n) (hT : Tr gs ⟨1, (r : Int) + 1⟩ t) {a : Nat} {x : Nd} (hx : t[a]? = some x) {j : Nat} (hj : j < n) (hrj : r ≤ j) (hv : x.v = ⟨1, (j : Int) + 1⟩) : hopF t a = if r = j then (0, 0) else (up r, (r : Int) + 2) := by
  have hd := h.dp hc hn hr hT hx hj hrj hv
  unfold hopF
  rw [hd]
  by_cases h0 : r = j
  · rw [if_pos (by omega), if_pos h0]
  · rw [if_neg (by omega), if_neg h0]
    obtain ⟨y, hy, hyv⟩ := h.anc_up hc hn hr hT hx hj hrj hv (j - r - 1) (by omega)
    have hyv : y.v = ⟨1, (r : Int) + 2⟩ := by rw [hyv]; congr 1; omega
    obtain ⟨_, _, _, _, _, hyd⟩ := h.par_up hc hn hr hT hy (j := r) (by omega) (Nat.le_refl _) hyv
    rw [getD_at hy, hyv, if_pos rfl, hyd]
end
end Go.Proofs.Ytmocggibcniggaa.Kt
namespace Go.Proofs.Ytmocggibcniggaa.Kt
open Go Kw Go.Proofs
attribute [local irreducible] Kw.GI Kw.GR Kw.FnR Kw.FnX
set_option maxHeartbeats 8000000
set_option maxRecDepth 100000
/-! ### the reference's Reach: the law -/
def cR (q n : Nd) : Int := if q.v.k = 2 ∨ n.v.k = 1 then 1 else 0
theorem cR_b (q n : Nd) : 0 ≤ cR q n ∧ cR q n ≤ 1 := by unfold cR; split <;> omega
theorem cR_eq {q n : Nd} (hq : q.v.k = 1 ∨ q.v.k = 2) : cR q n = cK q n + cP q := by
  unfold cR cK cP
  rcases hq with h | h
  · rw [if_pos h]
    by_cases h2 : n.v.k = 1
    · rw [if_pos (.inr h2), if_pos ⟨h2, h⟩]; rfl
    · rw [if_neg (fun hh => by rcases hh with hh | hh <;> omega), if_neg (fun hh => h2 hh.1)]; rfl
  · rw [if_pos (.inl h), if_neg (fun hh => by have := hh.2; omega), if_neg (show ¬ q.v.k = 1 by omega)]; rfl
structure PInv (t : List Nd) (w : List Int) (ms : List Vt) (i : Nat) (o : List Int) : Prop where
  lo : o.length = t.length
  rng : ∀ (k : Nat) x, i ≤ k → o[k]? = some x → -1 ≤ x ∧ x + k ≤ t.length
  at_ : ∀ k n x, i ≤ k → t[k]? = some n → o[k]? = some x → Val t w ms o k n x
theorem PInv.zero (t : List Nd) (w : List Int) (ms : List Vt) : PInv t w ms t.length (List.replicate t.length 0) where
  lo := by simp
  rng := fun k x hk hx => by have := (List.getElem?_eq_some_iff.1 hx).1; rw [List.length_replicate] at this; omega
  at_ := fun k n x hk hn _ => by have := (List.getElem?_eq_some_iff.1 hn).1; omega
theorem PInv.rch {t : List Nd} {w : List Int} {ms : List Vt} {o : List Int} (h : PInv t w ms 0 o) : Rch t w ms o :=
  ⟨h.lo, fun k x => h.rng k x (Nat.zero_le _), fun k n x => h.at_ k n x (Nat.zero_le _)⟩
/-- The nearest of the kids between i and k. -/
structure EInv (t : List Nd) (o : List Int) (i k : Nat) (n : Nd) (e : Int) : Prop where
  lo : -1 ≤ e
  le : ∀ k' m y, i < k' → k' < k → t[k']? = some m → m.p = i → o[k']? = some y → 0 ≤ y → 0 ≤ e ∧ e ≤ y + cR n m
  or : 0 ≤ e → ∃ k' m y, i < k' ∧ k' < k ∧ t[k']? = some m ∧ m.p = i ∧ o[k']? = some y ∧ 0 ≤ y ∧ e = y + cR n m
section
variable {t : List Nd} {w : List Int} {ms : List Vt} {i k : Nat} {o : List Int} {n m : Nd} {e y : Int}
theorem EInv.zero : EInv t o i (i + 1) n (-1) := ⟨by omega, fun k' _ _ h1 h2 => by omega, fun h => by omega⟩
theorem EInv.skip (h : EInv t o i k n e) (hm : t[k]? = some m) (hy : o[k]? = some y) (hs : m.p ≠ i ∨ y < 0) : EInv t o i (k + 1) n e := by
  refine ⟨h.lo, fun k' m' y' q1 q2 q3 q4 q5 q6 => ?_, fun h0 => ?_⟩
  · rcases Nat.lt_succ_iff_lt_or_eq.1 q2 with q2 | rfl
    · exact h.le k' m' y' q1 q2 q3 q4 q5 q6
    · rw [hm] at q3; cases q3
      rw [hy] at q5; cases q5
      rcases hs with hs | hs
      · exact absurd q4 hs
      · omega
  · obtain ⟨k', m', y', q1, q2, q⟩ := h.or h0
    exact ⟨k', m', y', q1, by omega, q⟩
theorem EInv.add (h : EInv t o i k n e) (hik : i < k) (hm : t[k]? = some m) (hy : o[k]? = some y) (hp : m.p = i) (hy0 : 0 ≤ y) : EInv t o i (k + 1) n (if e < 0 ∨ y + cR n m < e then y + cR n m else e) := by
  have hc := cR_b n m
  refine ⟨by have := h.lo; split <;> omega, fun k' m' y' q1 q2 q3 q4 q5 q6 => ?_, fun h0 => ?_⟩
  · rcases Nat.lt_succ_iff_lt_or_eq.1 q2 with q2 | rfl
    · have := h.le k' m' y' q1 q2 q3 q4 q5 q6
      split <;> omega
    · rw [hm] at q3; cases q3
      rw [hy] at q5; cases q5
      split <;> omega
  · by_cases hh : e < 0 ∨ y + cR n m < e
    · rw [if_pos hh]
      exact ⟨k, m, y, hik, by omega, hm, hp, hy, hy0, rfl⟩
    · rw [if_neg hh] at h0 ⊢
      obtain ⟨k', m', y', q1, q2, q⟩ := h.or h0
      exact ⟨k', m', y', q1, by omega, q⟩
def valP (w : List Int) (ms : List Vt) (n : Nd) (e : Int) : Int := if isW w n = true then 0 else if isMb ms n = true then 1 else e
theorem PInv.step (h : PInv t w ms (i + 1) o) (hn : t[i]? = some n) (hk : n.v.k = 1 ∨ n.v.k = 2) (he : EInv t o i t.length n e) : PInv t w ms i (o.set i (valP w ms n e)) := by
  have hl := (List.getElem?_eq_some_iff.1 hn).1
  have hlo : i < o.length := by rw [h.lo]; exact hl
  have hb : -1 ≤ valP w ms n e ∧ valP w ms n e + i ≤ t.length := by
    unfold valP
    split
    · omega
    split
    · omega
    · by_cases h0 : 0 ≤ e
      · obtain ⟨k', m', y', q1, q2, q3, q4, q5, q6, rfl⟩ := he.or h0
        have := (h.rng k' y' (by omega) q5).2
        have := cR_b n m'
        omega
      · have := he.lo; omega
  refine ⟨by rw [List.length_set]; exact h.lo, fun k x hk hx => ?_, fun k m x hk' hm hx => ?_⟩
  · rcases getS hlo hx with ⟨rfl, rfl⟩ | ⟨hne, hx⟩
    · exact hb
    · exact h.rng k x (by omega) hx
  · rcases getS hlo hx with ⟨rfl, rfl⟩ | ⟨hne, hx⟩
    · rw [hn] at hm; cases hm
      refine ⟨fun h1 => by unfold valP; rw [if_pos h1], fun h1 h2 => by unfold valP; rw [if_neg (by rw [h1]; decide), if_pos h2], fun h1 h2 k' m' y' q1 q3 q4 q5 q6 => ?_, fun h1 h2 h0 => ?_⟩
      · have hv : valP w ms n e = e := by unfold valP; rw [if_neg (by rw [h1]; decide), if_neg (by rw [h2]; decide)]
        rw [List.getElem?_set_ne (by omega)] at q5
        rw [hv, ← cR_eq hk]
        exact he.le k' m' y' q1 (List.getElem?_eq_some_iff.1 q3).1 q3 q4 q5 q6
      · have hv : valP w ms n e = e := by unfold valP; rw [if_neg (by rw [h1]; decide), if_neg (by rw [h2]; decide)]
        rw [hv] at h0 ⊢
        obtain ⟨k', m', y', q1, q2, q3, q4, q5, q6, q7⟩ := he.or h0
        exact ⟨k', m', y', q1, q3, q4, by rw [List.getElem?_set_ne (by omega)]; exact q5, q6, by rw [q7, cR_eq hk]⟩
    · exact (h.at_ k m x (by omega) hm hx).keep (fun j hj => List.getElem?_set_ne (by omega))
end
end Go.Proofs.Ytmocggibcniggaa.Kt
namespace Go.Proofs.Ytmocggibcniggaa.Kt
open Go Kw Go.Proofs
attribute [local irreducible] Kw.GI Kw.GR Kw.FnR Kw.FnX
set_option maxHeartbeats 16000000
set_option maxRecDepth 100000
end Go.Proofs.Ytmocggibcniggaa.Kt
namespace Go.Proofs.Ytmocggibcniggaa.Kt
open Go Kw Go.Proofs
theorem pTreeLC (l : List Ls) (root : Vt) (h : Few l) : FnR Try.prog 49 [avMf (mapL l), root.av] (RT1 (refTree (mapL l) root)) := pTreeL l root h
end Go.Proofs.Ytmocggibcniggaa.Kt
namespace Go.Proofs.Ytmocggibcniggaa.Kt
open Go Kw Go.Proofs
attribute [local irreducible] Kw.GI Kw.GR Kw.FnR Kw.FnX
set_option maxHeartbeats 8000000
set_option maxRecDepth 100000
/-- The tree from where an address is. -/
def castT (m : Mp) (s : Src) : List Nd := if s.ok = true then refTree m s.v else []
theorem pTreeC_ok (l : List Ls) (hf : Few l) (a : Int) (h1 : (mapL l).sn.length < 1000000) (h2 : (mapL l).sb.length < 100000000) : FnX Try.prog 18 [avMf (mapL l), I a] [] [] (RV1 (eNd (castT (mapL l) (srcF a (mapL l))))) := by
  refine fnX_intro (T := TT) (n := 22) Try.func18 rfl rfl rfl (fun w X Z Y B => ?_)
  (repeat (first | refine r_end ?_ | (refine r_op ?_; first | refine r_pure hT rfl rfl rfl rfl rfl rfl ?_ | refine r_load hT rfl rfl rfl rfl rfl rfl rfl rfl rfl ?_ | refine r_box rfl rfl rfl rfl rfl rfl rfl rfl rfl ?_) | refine gi_seq ?_ | refine gi_plain ?_))
  refine r_call (pSource_ok (mapL l) a h1 h2) rfl rfl rfl rfl rfl rfl rfl rfl Try.func16 rfl rfl rfl pSrc ?_
  rintro r S1 ⟨rfl, rfl⟩
  generalize srcF a (mapL l) = s
  (repeat (first | refine r_end ?_ | (refine r_op ?_; first | refine r_pure hT rfl rfl rfl rfl rfl rfl ?_ | refine r_store hT rfl rfl rfl rfl rfl rfl rfl rfl rfl rfl ?_ | refine r_alloc hT rfl rfl rfl rfl rfl rfl rfl rfl rfl ?_) | refine gi_seq ?_ | refine gi_plain ?_))
  refine gi_cond rfl (fun c1 => ?_) (fun c1 => ?_)
  · rw [notB_eq, Bool.not_eq_true'] at c1
    (repeat (first | refine r_end ?_ | (refine r_op ?_; refine r_pure hT rfl rfl rfl rfl rfl rfl ?_) | refine gi_seq ?_ | refine gi_plain ?_))
    refine gi_adopt (e := 58) (sz := 5) 4 rfl ?_
    refine gi_retX hT Try.func18 rfl [] [0] rfl rfl rfl rfl rfl rfl rfl rfl ?_
    refine ⟨rfl, rfl, ?_⟩
    unfold castT
    rw [if_neg (by rw [c1]; decide)]
    rfl
  · rw [notB_eq, Bool.not_eq_false'] at c1
    (repeat (first | (refine r_op ?_; refine r_load hT rfl rfl rfl rfl rfl rfl rfl rfl rfl ?_) | refine gi_seq ?_ | refine gi_plain ?_ | refine gi_skip ?_))
    refine r_call (pTreeLC l s.v hf) rfl rfl rfl rfl rfl rfl rfl rfl Try.func49 rfl rfl rfl pT1 ?_
    rintro r S1 ⟨rfl, rfl⟩
    (repeat (first | refine r_end ?_ | (refine r_op ?_; refine r_pure hT rfl rfl rfl rfl rfl rfl ?_)))
    refine gi_retX hT Try.func18 rfl [] [0] rfl rfl rfl rfl rfl rfl rfl rfl ?_
    refine ⟨rfl, rfl, ?_⟩
    unfold castT
    rw [if_pos c1]
end Go.Proofs.Ytmocggibcniggaa.Kt
namespace Go.Proofs.Ytmocggibcniggaa.Kt
open Go Kw Go.Proofs
set_option maxHeartbeats 4000000
set_option maxRecDepth 100000
/-! ### routers that want all groups: the law -/
section
variable {t : List Nd} {W : List Int} {ms : List Vt} {a b c : List Int}
theorem wild_k {n : Nd} (h : n.v.k ≠ 1) : isW W n = false := by unfold isW; rw [decide_eq_false h]; rfl
/-- Who does not want all is at one at the least. -/
theorem Rch.one' (h : Rch t W ms a) : ∀ (j k : Nat) (n : Nd) (x : Int), t.length - k ≤ j → t[k]? = some n → a[k]? = some x → isW W n = false → 0 ≤ x → 1 ≤ x
  | 0, k, n, x, hj, hn, _, _, _ => by have := (List.getElem?_eq_some_iff.1 hn).1; omega
  | j + 1, k, n, x, hj, hn, hx, hw, h0 => by
    have hv := h.at_ k n x hn hx
    cases hm : isMb ms n with
    | true => rw [hv.me hw hm]; omega
    | false =>
      obtain ⟨k', m, y, hk, hm', _, hy, hy0, rfl⟩ := hv.or hw hm h0
      have h1 := cK_b n m
      have h2 := cP_b n
      by_cases hk1 : n.v.k = 1
      · by_cases hm1 : m.v.k = 1
        · have : cK n m = 1 := if_pos ⟨hm1, hk1⟩
          omega
        · have := Rch.one' h j k' m y (by omega) hm' hy (wild_k hm1) hy0
          omega
      · have : cP n = 1 := if_neg hk1
        omega
theorem Rch.more (ha : Rch t [] ms a) (hb : Rch t W ms b) : ∀ (j k : Nat) (n : Nd) (x y : Int), t.length - k ≤ j → t[k]? = some n → a[k]? = some x → b[k]? = some y → 0 ≤ x → 0 ≤ y ∧ y ≤ x
  | 0, k, n, x, y, hj, hn, _, _, _ => by have := (List.getElem?_eq_some_iff.1 hn).1; omega
  | j + 1, k, n, x, y, hj, hn, hx, hy, h0 => by
    have va := ha.at_ k n x hn hx
    have vb := hb.at_ k n y hn hy
    cases hw : isW W n with
    | true => rw [vb.wi hw]; omega
    | false =>
      cases hm : isMb ms n with
      | true => rw [vb.me hw hm, va.me (isW_nil n) hm]; omega
      | false =>
        obtain ⟨k', m, x', hk, hm', hp, hx', hx0, rfl⟩ := va.or (isW_nil n) hm h0
        obtain ⟨y', hy'⟩ : ∃ y', b[k']? = some y' := ⟨_, List.getElem?_eq_getElem (by rw [hb.lo]; exact (List.getElem?_eq_some_iff.1 hm').1)⟩
        obtain ⟨q1, q2⟩ := Rch.more ha hb j k' m x' y' (by omega) hm' hx' hy' hx0
        have := vb.le hw hm k' m y' hk hm' hp hy' q1
        omega
theorem Rch.mem (hc : Rch t W [] c) (hb : Rch t W ms b) : ∀ (j k : Nat) (n : Nd) (x y : Int), t.length - k ≤ j → t[k]? = some n → c[k]? = some x → b[k]? = some y → 0 ≤ x → 0 ≤ y ∧ y ≤ x
  | 0, k, n, x, y, hj, hn, _, _, _ => by have := (List.getElem?_eq_some_iff.1 hn).1; omega
  | j + 1, k, n, x, y, hj, hn, hx, hy, h0 => by
    have vc := hc.at_ k n x hn hx
    have vb := hb.at_ k n y hn hy
    cases hw : isW W n with
    | true => rw [vb.wi hw]; omega
    | false =>
      have h1 := hc.one' t.length k n x (by omega) hn hx hw h0
      cases hm : isMb ms n with
      | true => rw [vb.me hw hm]; omega
      | false =>
        obtain ⟨k', m, x', hk, hm', hp, hx', hx0, rfl⟩ := vc.or hw rfl h0
        obtain ⟨y', hy'⟩ : ∃ y', b[k']? = some y' := ⟨_, List.getElem?_eq_getElem (by rw [hb.lo]; exact (List.getElem?_eq_some_iff.1 hm').1)⟩
        obtain ⟨q1, q2⟩ := Rch.mem hc hb j k' m x' y' (by omega) hm' hx' hy' hx0
        have := vb.le hw hm k' m y' hk hm' hp hy' q1
        omega
theorem Rch.same (ha : Rch t [] ms a) (hb : Rch t W ms b) (hc : Rch t W [] c) : ∀ (j k : Nat) (n : Nd) (x y z : Int), t.length - k ≤ j → t[k]? = some n → a[k]? = some x → b[k]? = some y → c[k]? = some z → x < 0 → y = z
  | 0, k, n, x, y, z, hj, hn, _, _, _, _ => by have := (List.getElem?_eq_some_iff.1 hn).1; omega
  | j + 1, k, n, x, y, z, hj, hn, hx, hy, hz, h0 => by
    have va := ha.at_ k n x hn hx
    have vb := hb.at_ k n y hn hy
    have vc := hc.at_ k n z hn hz
    cases hw : isW W n with
    | true => rw [vb.wi hw, vc.wi hw]
    | false =>
      cases hm : isMb ms n with
      | true => have := va.me (isW_nil n) hm; omega
      | false =>
        have kid : ∀ (k' : Nat) (m : Nd) (y' z' : Int), k < k' → t[k']? = some m → m.p = k → b[k']? = some y' → c[k']? = some z' → y' = z' := fun k' m y' z' hk hm' hp hy' hz' => by
          obtain ⟨x', hx'⟩ : ∃ x', a[k']? = some x' := ⟨_, List.getElem?_eq_getElem (by rw [ha.lo]; exact (List.getElem?_eq_some_iff.1 hm').1)⟩
          refine Rch.same ha hb hc j k' m x' y' z' (by omega) hm' hx' hy' hz' ?_
          refine Int.not_le.1 (fun h => ?_)
          have := (va.le (isW_nil n) hm k' m x' hk hm' hp hx' h).1
          omega
        have ry := hb.rng k y hy
        have rz := hc.rng k z hz
        have e1 : 0 ≤ y → 0 ≤ z ∧ z ≤ y := fun hy0 => by
          obtain ⟨k', m, y', hk, hm', hp, hy', hy1, rfl⟩ := vb.or hw hm hy0
          obtain ⟨z', hz'⟩ : ∃ z', c[k']? = some z' := ⟨_, List.getElem?_eq_getElem (by rw [hc.lo]; exact (List.getElem?_eq_some_iff.1 hm').1)⟩
          have := kid k' m y' z' hk hm' hp hy' hz'
          subst this
          exact vc.le hw rfl k' m y' hk hm' hp hz' hy1
        have e2 : 0 ≤ z → 0 ≤ y ∧ y ≤ z := fun hz0 => by
          obtain ⟨k', m, z', hk, hm', hp, hz', hz1, rfl⟩ := vc.or hw rfl hz0
          obtain ⟨y', hy'⟩ : ∃ y', b[k']? = some y' := ⟨_, List.getElem?_eq_getElem (by rw [hb.lo]; exact (List.getElem?_eq_some_iff.1 hm').1)⟩
          have := kid k' m y' z' hk hm' hp hy' hz'
          subst this
          exact vb.le hw hm k' m y' hk hm' hp hy' hz1
        omega
theorem Rch.none (hc : Rch t [] [] c) : ∀ (j k : Nat) (x : Int), t.length - k ≤ j → c[k]? = some x → x = -1
  | 0, k, x, hj, hx => by have := (List.getElem?_eq_some_iff.1 hx).1; have := hc.lo; omega
  | j + 1, k, x, hj, hx => by
    have hl := (List.getElem?_eq_some_iff.1 hx).1
    rw [hc.lo] at hl
    obtain ⟨n, hn⟩ : ∃ n, t[k]? = some n := ⟨_, List.getElem?_eq_getElem hl⟩
    have hr := hc.rng k x hx
    have : ¬ 0 ≤ x := fun h0 => by
      obtain ⟨k', m, y', hk, hm', hp, hy', hy1, _⟩ := (hc.at_ k n x hn hx).or (isW_nil n) rfl h0
      have := Rch.none hc j k' y' (by omega) hy'
      omega
    omega
end
/-! ### one of Graph's routers wants all -/
def Ls.wild (x : Ls) : Ls := { x with fl := 8 }
end Go.Proofs.Ytmocggibcniggaa.Kt
namespace Go.Proofs.Ytmocggibcniggaa.Kt
open Go Kw Go.Proofs
set_option maxHeartbeats 4000000
set_option maxRecDepth 100000
theorem fold_is {v : Vt} : ∀ (l : List Ls) (m : Option Ls), m.isSome = true → (l.foldl (fdS v) m).isSome = true
  | [], m, h => h
  | y :: l, m, h => by
    rw [List.foldl_cons]
    refine fold_is l _ ?_
    unfold fdS
    split
    · rfl
    · exact h
theorem fold_has {v : Vt} {x : Ls} (ha : x.age < 3600) (hk : isV v x = true) (hi : x.id = v.i) : ∀ (l : List Ls) (m : Option Ls), x ∈ l → (l.foldl (fdS v) m).isSome = true
  | y :: l, m, h => by
    rw [List.foldl_cons]
    rcases List.mem_cons.1 h with rfl | h
    · refine fold_is l _ ?_
      unfold fdS
      rw [decide_eq_true ha, hk, decide_eq_true hi]
      cases m with
      | none => rfl
      | some z => simp only [Option.isSome_some, Bool.not_true, Bool.false_or, Bool.true_and]; split <;> rfl
    · exact fold_has ha hk hi l _ h
end Go.Proofs.Ytmocggibcniggaa.Kt
namespace Go.Proofs.Ytmocggibcniggaa.Kt
open Go Kw Go.Proofs
set_option maxHeartbeats 4000000
set_option maxRecDepth 100000
/-! ### the addresses of Graph's nets -/
theorem and24_all : (List.range 4000).all (fun q => Nat.beq ((256 * q) &&& 4294967040) (256 * q) && Nat.beq ((256 * q + 9) &&& 4294967040) (256 * q)) = true := by kernel_rfl
theorem mask24 : maskF 24 = 4294967040 := by kernel_rfl
theorem bits24 : bitsF 4294967040 = 24 := by kernel_rfl
theorem pnet24 {i : Int} (h0 : 0 ≤ i) (h1 : i ≤ 1000000) (h2 : i % 256 = 0) : pnetF i 24 = i ∧ pnetF (i + 9) 24 = i := by
  obtain ⟨q, hq⟩ : ∃ q : Nat, i = (256 * q : Nat) := ⟨(i / 256).toNat, by omega⟩
  have h := List.all_eq_true.1 and24_all q (List.mem_range.2 (by omega))
  rw [Bool.and_eq_true] at h
  have e1 := Nat.eq_of_beq_eq_true h.1
  have e2 := Nat.eq_of_beq_eq_true h.2
  unfold pnetF
  rw [mask24, hq]
  refine ⟨?_, ?_⟩
  · have := and_i64 (256 * q) 4294967040 (by omega) (by omega)
    rw [e1] at this
    exact this
  · have := and_i64 (256 * q + 9) 4294967040 (by omega) (by omega)
    rw [e2] at this
    exact this
theorem in24 {i : Int} (h0 : 0 ≤ i) (h1 : i ≤ 1000000) (h2 : i % 256 = 0) : netF i 24 = i ∧ inP (i + 9) i 24 = true := by
  obtain ⟨e1, e2⟩ := pnet24 h0 h1 h2
  refine ⟨by rw [net_same 24 h0 (by omega)]; exact e1, ?_⟩
  have ok : ∀ {a : Int}, 0 ≤ a → a ≤ 4294967295 → okA a = true := fun h h' => by
    unfold okA; rw [leB_eq, leB_eq, decide_eq_true h, decide_eq_true h']; rfl
  unfold inP
  rw [ok (by omega) (by omega), ok h0 (by omega), e1, e2, eqB_eq, leB_eq, leB_eq]
  simp
theorem vert_found {l : List Ls} {v : Vt} (h : v ∈ vertsL l) : (findL l v).isSome = true := by
  obtain ⟨y, hy, ha, h⟩ := verts_mem.1 h
  rcases h with ⟨h1, h2, rfl⟩ | ⟨h1, rfl⟩
  · exact fold_has ha (by unfold isV; rw [h1, h2]; simp) rfl l none hy
  · exact fold_has ha (by unfold isV; rw [h1]; simp) rfl l none hy
theorem GrOk.sn {n : Int} {l : List Ls} (h : GrOk n l) : ∀ x ∈ (mapL l).sn, inP (x.p + 9) x.p x.b = true ∧ x.v ∈ (mapL l).vs := fun x hx => by
  have hx : x ∈ (vertsL l).flatMap (snF l) := hx
  obtain ⟨v, hv, hs⟩ := List.mem_flatMap.1 hx
  unfold snF at hs
  split at hs
  · rename_i hk
    rw [List.mem_singleton] at hs
    have hk2 : v.k = 2 := by rw [eqB_eq] at hk; exact of_decide_eq_true hk
    obtain ⟨y, hy⟩ : ∃ y, findL l v = some y := Option.isSome_iff_exists.1 (vert_found hv)
    rw [hy] at hs
    obtain ⟨q1, q2, q3, q4⟩ := find_is hy
    have hy2 : y.bits = 24 ∧ 0 ≤ y.id ∧ y.id ≤ 1000000 ∧ y.id % 256 = 0 := by
      obtain ⟨k, gs, ns, _, rfl, h2, h3, _⟩ := h.ex
      rcases List.mem_append.1 q1 with q1 | q1
      · obtain ⟨j, hj⟩ := List.mem_iff_getElem?.1 q1
        rw [(h2.el j y hj).1] at q3
        unfold isV at q3
        rw [hk2] at q3
        simp at q3
      · obtain ⟨e, _, r1, r2, r3⟩ := h3 y q1
        exact ⟨by rw [e], r1, r2, r3⟩
    rw [hs]
    show inP (netF v.i y.bits + 9) (netF v.i y.bits) y.bits = true ∧ v ∈ (mapL l).vs
    obtain ⟨b1, b2, b3, b4⟩ := hy2
    rw [b1, ← q4, (in24 b2 b3 b4).1]
    exact ⟨(in24 b2 b3 b4).2, hv⟩
  · cases hs
theorem GrOk.sb {n : Int} {l : List Ls} (h : GrOk n l) : ∀ x ∈ (mapL l).sb, inP (x.p + 9) x.p x.b = true ∧ (⟨1, x.r⟩ : Vt) ∈ (mapL l).vs := fun x hx => by
  have hx : x ∈ (vertsL l).flatMap (sbF l) := hx
  obtain ⟨v, hv, hs⟩ := List.mem_flatMap.1 hx
  unfold sbF at hs
  split at hs
  · cases hs
  · rename_i hk
    have hk1 : v.k = 1 := by
      rcases verts_kind hv with h | h
      · exact h
      · rw [h] at hk
        have : eqB (2 : Int) 2 = true := by rw [eqB_eq]; rfl
        rw [this] at hk; cases hk
    obtain ⟨y, hy⟩ : ∃ y, findL l v = some y := Option.isSome_iff_exists.1 (vert_found hv)
    rw [hy] at hs
    obtain ⟨q, hq, hs⟩ := List.mem_flatMap.1 hs
    obtain ⟨q1, _, _, _⟩ := find_is hy
    have hlk := h.link y q1 q hq
    unfold stF at hs
    split at hs
    · rename_i hc
      rw [Bool.and_eq_true, eqB_eq] at hc
      obtain ⟨b1, b2, b3, b4⟩ := hlk.2.2 (of_decide_eq_true hc.1)
      rw [List.mem_singleton] at hs
      rw [hs]
      show inP (netF q.i (bitsF q.d) + 9) (netF q.i (bitsF q.d)) (bitsF q.d) = true ∧ (⟨1, v.i⟩ : Vt) ∈ (mapL l).vs
      rw [b1, bits24, (in24 b2 b3 b4).1]
      refine ⟨(in24 b2 b3 b4).2, ?_⟩
      have : (⟨1, v.i⟩ : Vt) = v := by cases v; simp only [Vt.mk.injEq]; exact ⟨hk1.symm, trivial⟩
      rw [this]
      exact hv
    · cases hs
/-- Once found it stays so, at one of the map's. -/
structure Fnd (m : Mp) (s : Src) : Prop where
  v : s.ok = true → s.v ∈ m.vs
theorem fold_fnd {α : Type} {f : Src → α → Src} {Q : Src → Prop} : ∀ (l : List α) (s : Src), (∀ s, ∀ x ∈ l, Q s → Q (f s x)) → Q s → Q (l.foldl f s)
  | [], _, _, h => h
  | x :: l, s, hf, h => by
    rw [List.foldl_cons]
    exact fold_fnd l _ (fun s y hy => hf s y (List.mem_cons_of_mem _ hy)) (hf s x (List.mem_cons_self ..) h)
theorem fold_hit {α : Type} {f : Src → α → Src} {x : α} (hit : ∀ s, (f s x).ok = true) (keep : ∀ s y, s.ok = true → (f s y).ok = true) : ∀ (l : List α) (s : Src), x ∈ l → (l.foldl f s).ok = true
  | y :: l, s, h => by
    rw [List.foldl_cons]
    rcases List.mem_cons.1 h with rfl | h
    · exact fold_fnd (Q := fun s => s.ok = true) l _ (fun s y _ => keep s y) (hit s)
    · exact fold_hit hit keep l _ h
theorem sn1_keep (a : Int) (s : Src) (x : Sn) (h : s.ok = true) : (sn1 a s x).ok = true := by unfold sn1; split; rfl; exact h
theorem sb1_keep (a : Int) (s : Src) (x : Sb) (h : s.ok = true) : (sb1 a s x).ok = true := by unfold sb1; split; rfl; exact h
theorem sn1_hit {a : Int} {x : Sn} (hi : inP a x.p x.b = true) (s : Src) : (sn1 a s x).ok = true := by
  unfold sn1
  split
  · rfl
  · rename_i h
    cases hk : s.ok with
    | true => rfl
    | false => exact absurd ⟨hi, .inl hk⟩ h
theorem sb1_hit {a : Int} {x : Sb} (hi : inP a x.p x.b = true) (s : Src) : (sb1 a s x).ok = true := by
  unfold sb1
  split
  · rfl
  · rename_i h
    cases hk : s.ok with
    | true => rfl
    | false => exact absurd ⟨hi, .inl hk⟩ h
end Go.Proofs.Ytmocggibcniggaa.Kt
namespace Go.Proofs.Ytmocggibcniggaa.Kt
open Go Kw Go.Proofs
set_option maxHeartbeats 4000000
set_option maxRecDepth 100000
/-! ### whose address the source is -/
theorem src_one {a : Int} {m : Mp} {z : Src} (hz : z.ok = true) (h1 : ∀ x ∈ m.sn, inP a x.p x.b = true → (⟨x.v, x.p, x.b, true⟩ : Src) = z) (h2 : ∀ x ∈ m.sb, inP a x.p x.b = true → (⟨⟨1, x.r⟩, x.p, x.b, true⟩ : Src) = z) (hex : (∃ x ∈ m.sn, inP a x.p x.b = true) ∨ ∃ x ∈ m.sb, inP a x.p x.b = true) : srcF a m = z := by
  have hq : srcF a m = z0 ∨ srcF a m = z := fold_fnd (Q := fun s => s = z0 ∨ s = z) _ _ (fun s x hx hs => by
    unfold sb1
    split
    · rename_i h
      exact .inr (h2 x hx h.1)
    · exact hs) (fold_fnd (Q := fun s => s = z0 ∨ s = z) _ _ (fun s x hx hs => by
    unfold sn1
    split
    · rename_i h
      exact .inr (h1 x hx h.1)
    · exact hs) (.inl rfl))
  have hok : (srcF a m).ok = true := by
    rcases hex with ⟨x, hx, h⟩ | ⟨x, hx, h⟩
    · exact fold_fnd (Q := fun s => s.ok = true) _ _ (fun s y _ => sb1_keep _ s y) (fold_hit (sn1_hit h) (sn1_keep _) _ _ hx)
    · exact fold_hit (sb1_hit h) (sb1_keep _) _ _ hx
  rcases hq with hq | hq
  · rw [hq] at hok; cases hok
  · exact hq
theorem in_net {a p : Int} (h : inP a p 24 = true) : pnetF a 24 = pnetF p 24 := by
  unfold inP at h
  simp only [Bool.and_eq_true] at h
  have := h.2.2.2.2
  rw [eqB_eq] at this
  exact of_decide_eq_true this
theorem one_out {O : List Ot} {up : Int} {outs : List Ot} {z : Ot} (h : EntO O up outs) (hO : ∀ x ∈ O, x = z) (hz : z ∈ O) (hu : z.a ≠ up) : outs = [z] := by
  have hzm : z ∈ outs := (h.mem z).2 ⟨hz, hu, fun y hy _ => by rw [hO y hy]; exact Int.le_refl _⟩
  have hall : ∀ x ∈ outs, x = z := fun x hx => hO x ((h.mem x).1 hx).1
  have hpw := h.pw
  match outs, hall, hpw, hzm with
  | [], _, _, hzm => cases hzm
  | [y], hall, _, _ => rw [hall y (List.mem_singleton.2 rfl)]
  | y :: w :: l, hall, hpw, _ =>
    rw [List.pairwise_cons] at hpw
    have h1 := hpw.1 w (List.mem_cons_self ..)
    rw [hall y (List.mem_cons_self ..), hall w (List.mem_cons_of_mem _ (List.mem_cons_self ..))] at h1
    exact absurd h1 (Int.lt_irrefl _)
theorem mem_zip {α β : Type} {l : List α} {m : List β} {x : α × β} : x ∈ l.zip m ↔ ∃ i : Nat, l[i]? = some x.1 ∧ m[i]? = some x.2 := by
  rw [List.mem_iff_getElem?]
  constructor
  · rintro ⟨i, hi⟩
    rw [List.getElem?_zip_eq_some] at hi
    exact ⟨i, hi⟩
  · rintro ⟨i, hi⟩
    exact ⟨i, List.getElem?_zip_eq_some.2 hi⟩
/-! ### the row with a stub at each -/
section
variable {n : Nat} {cs up dn : Nat → Int} {St : Nat → Lk → Prop} {gs : List Ls} {t : List Nd}
/-- Whose parent is a Node of the row, stands behind it. -/
theorem RowL.kid (h : RowL n cs up dn St gs) (hc : ∀ j, j + 1 < n → 1 ≤ cs j ∧ cs j ≤ 256) (hn : n ≤ 1000) (hn0 : 0 < n) (hT : Tr gs ⟨1, ((0 : Nat) : Int) + 1⟩ t) {a b : Nat} {x m : Nd} (hx : t[a]? = some x) {j : Nat} (hj : j < n) (hv : x.v = ⟨1, (j : Int) + 1⟩) (hm : t[b]? = some m) (hp : m.p = a) : j + 1 < n ∧ m.v = ⟨1, (j : Int) + 2⟩ ∧ m.d = up j := by
  have hb : 0 < b := by
    rcases Nat.eq_zero_or_pos b with rfl | hb
    · have := hT.tre.root m hm
      omega
    · exact hb
  obtain ⟨e, he, p, y, _, hy, hyv, het, hmp, _, hmd, _⟩ := hT.gr.edge hb hm
  have hpa : p = a := by omega
  subst hpa
  rw [hx] at hy
  cases hy
  obtain ⟨i, hi, f1, f2⟩ := h.edge he
  rw [hv, f1] at hyv
  have hij : i = j := by
    have := congrArg Vt.i hyv
    simp only at this
    omega
  subst hij
  rcases f2 with ⟨g1, g2, _, g4⟩ | ⟨g1, g2, _, _⟩
  · exact ⟨g1, by rw [← het, g2], by rw [hmd, g4]⟩
  · exfalso
    have hmv : m.v = ⟨1, (i : Int)⟩ := by rw [← het, g2]
    obtain ⟨j', rfl⟩ : ∃ j', i = j' + 1 := ⟨i - 1, by omega⟩
    rcases Nat.eq_zero_or_pos j' with rfl | h0
    · have := hT.gr.inj hm hT.hd (by rw [hmv]; rfl)
      omega
    · obtain ⟨j2, rfl⟩ : ∃ j2, j' = j2 + 1 := ⟨j' - 1, by omega⟩
      obtain ⟨_, z, hz, hzv, hmp', _⟩ := h.par_up hc hn hn0 hT hm (j := j2) (by omega) (Nat.zero_le _) (by rw [hmv]; congr 1)
      have : par t b = p := by omega
      rw [this, hx] at hz
      cases hz
      rw [hv] at hzv
      have := congrArg Vt.i hzv
      simp only at this
      omega
/-- How far it is to the member at the end. -/
theorem RowL.need (h : RowL n cs up dn St gs) (hc : ∀ j, j + 1 < n → 1 ≤ cs j ∧ cs j ≤ 256) (hn : n ≤ 1000) (hn0 : 0 < n) (hT : Tr gs ⟨1, ((0 : Nat) : Int) + 1⟩ t) {o : List Int} (hR : Rch t [] [⟨1, (n : Int)⟩] o) : ∀ (d j : Nat), j + d + 1 = n → ∀ (a : Nat) (x : Nd), t[a]? = some x → x.v = ⟨1, (j : Int) + 1⟩ → o[a]? = some ((n : Int) - j) := by
  intro d
  induction d with
  | zero =>
    intro j hj a x hx hv
    have hal := (List.getElem?_eq_some_iff.1 hx).1
    obtain ⟨y, hy⟩ : ∃ y, o[a]? = some y := ⟨_, List.getElem?_eq_getElem (by rw [hR.lo]; exact hal)⟩
    have hval := hR.at_ a x y hx hy
    have hm : isMb [⟨1, (n : Int)⟩] x = true := by
      unfold isMb
      rw [List.any_eq_true]
      exact ⟨_, List.mem_singleton.2 rfl, decide_eq_true (by rw [hv]; congr 1; omega)⟩
    rw [hy, hval.me (isW_nil x) hm]
    congr 1
    omega
  | succ d ih =>
    intro j hj a x hx hv
    have hal := (List.getElem?_eq_some_iff.1 hx).1
    obtain ⟨y, hy⟩ : ∃ y, o[a]? = some y := ⟨_, List.getElem?_eq_getElem (by rw [hR.lo]; exact hal)⟩
    have hval := hR.at_ a x y hx hy
    have hm : isMb [⟨1, (n : Int)⟩] x = false := by
      unfold isMb
      rw [List.any_eq_false]
      intro z hz
      rw [List.mem_singleton.1 hz, hv]
      simp only [decide_eq_true_eq]
      intro hh
      have := congrArg Vt.i hh
      simp only at this
      omega
    obtain ⟨b, m, hm1, hm2, _⟩ := h.at_ hc hn hn0 hT (j + 1) (by omega)
    have hm2 : m.v = ⟨1, (j : Int) + 2⟩ := by rw [hm2]; congr 1
    obtain ⟨hb, z, hz, hzv, hmp, _⟩ := h.par_up hc hn hn0 hT hm1 (j := j) (by omega) (Nat.zero_le _) hm2
    have hpa : par t b = a := hT.gr.inj hz hx (by rw [hzv, hv])
    rw [hpa] at hmp
    have hab : a < b := by
      obtain ⟨_, _, p, _, hp, _, _, _, hmp2, _⟩ := hT.gr.edge hb hm1
      omega
    have hob := ih (j + 1) (by omega) b m hm1 (by rw [hm2]; congr 1)
    obtain ⟨c1, c2⟩ := hval.le (isW_nil x) hm b m _ hab hm1 hmp hob (by omega)
    obtain ⟨b', m', y', k1, k2, k3, k4, k5, k6⟩ := hval.or (isW_nil x) hm c1
    obtain ⟨_, e1, _⟩ := h.kid hc hn hn0 hT hx (by omega) hv k2 k3
    have : b' = b := hT.gr.inj k2 hm1 (by rw [e1, hm2])
    subst this
    rw [hob] at k4
    cases k4
    rw [hm1] at k2
    cases k2
    have hck : cK x m = 1 := if_pos ⟨by rw [hm2], by rw [hv]⟩
    have hcp : cP x = 0 := if_pos (by rw [hv])
    rw [hy, k6, hck, hcp]
    congr 1
    omega
/-- What a router of the row goes on to. -/
theorem RowL.outs (h : RowL n cs up dn St gs) (hc : ∀ j, j + 1 < n → 1 ≤ cs j ∧ cs j ≤ 256) (hn : n ≤ 1000) (hn0 : 0 < n) (hT : Tr gs ⟨1, ((0 : Nat) : Int) + 1⟩ t) {o : List Int} (hR : Rch t [] [⟨1, (n : Int)⟩] o) {j : Nat} (hj : j + 1 < n) {a : Nat} {x : Nd} (hx : t[a]? = some x) (hv : x.v = ⟨1, (j : Int) + 1⟩) (hu : up j ≠ 0) {g pf bt : Int} {outs : List Ot} (hO : EntO (outs0 t a o [] g) (upF t x [] pf bt) outs) : outs = [⟨up j, (n : Int) - j⟩] := by
  have hup : upF t x [] pf bt = 0 := by
    unfold upF
    split
    · rfl
    · rename_i hp
      rw [ltB_eq] at hp
      have hp := of_decide_eq_false hp
      have ha : 0 < a := by
        rcases Nat.eq_zero_or_pos a with rfl | ha
        · have := hT.tre.root x hx; omega
        · exact ha
      obtain ⟨e, he, p, y, _, hy, hyv, het, hmp, _⟩ := hT.gr.edge ha hx
      obtain ⟨i, _, f1, _⟩ := h.edge he
      have : eqB (t.getD x.p.toNat zNd).v.k 1 = true := by
        rw [hmp, Int.toNat_natCast, List.getD_eq_getElem?_getD, hy]
        show eqB y.v.k 1 = true
        rw [hyv, f1, eqB_eq]
        rfl
      rw [this]
      rfl
  rw [hup] at hO
  have hne := h.need hc hn hn0 hT hR
  obtain ⟨b, m, hm1, hm2, _⟩ := h.at_ hc hn hn0 hT (j + 1) (by omega)
  have hm3 : m.v = ⟨1, (j : Int) + 2⟩ := by rw [hm2]; congr 1
  obtain ⟨hb, z, hz, hzv, hmp, hmd⟩ := h.par_up hc hn hn0 hT hm1 (j := j) (by omega) (Nat.zero_le _) hm3
  have hpa : par t b = a := hT.gr.inj hz hx (by rw [hzv, hv])
  rw [hpa] at hmp
  have hob := hne (n - (j + 1) - 1) (j + 1) (by omega) b m hm1 hm2
  have hval : ∀ (m' : Nd) (y : Int), m'.p = (a : Int) → m'.v = ⟨1, (j : Int) + 2⟩ → m'.d = up j → y = (n : Int) - ((j + 1 : Nat) : Int) → out1 a (m', y) = [⟨up j, (n : Int) - j⟩] := by
    intro m' y h1 h2 h3 h4
    unfold out1
    rw [show (notB (eqB m'.p a) || ltB y 0) = false from by rw [notB_eq, eqB_eq, ltB_eq, h1, decide_eq_false (show ¬ y < 0 by omega)]; simp]
    show [(⟨m'.d, _⟩ : Ot)] = _
    rw [show eqB m'.v.k 1 = true from by rw [h2, eqB_eq]; rfl, h3]
    show [(⟨up j, wr .i64 (y + 1)⟩ : Ot)] = _
    rw [wr_i64 (by omega) (by omega), h4]
    congr 2
    omega
  refine one_out hO (fun w hw => ?_) ?_ hu
  · unfold outs0 at hw
    rw [List.flatMap_nil, List.append_nil] at hw
    obtain ⟨⟨m', y⟩, hmy, hw⟩ := List.mem_flatMap.1 hw
    obtain ⟨i, h1, h2⟩ := mem_zip.1 hmy
    by_cases hp : m'.p = a
    · obtain ⟨_, e1, e2⟩ := h.kid hc hn hn0 hT hx (by omega) hv h1 hp
      have : i = b := hT.gr.inj h1 hm1 (by rw [e1, hm3])
      subst this
      rw [hob] at h2
      rw [hval m' y hp e1 e2 (Option.some.inj h2).symm] at hw
      exact List.mem_singleton.1 hw
    · unfold out1 at hw
      rw [show (notB (eqB m'.p a) || ltB y 0) = true from by rw [notB_eq, eqB_eq, show (m'.p == (a : Int)) = false from by simpa using hp]; rfl] at hw
      cases hw
  · unfold outs0
    rw [List.flatMap_nil, List.append_nil]
    refine List.mem_flatMap.2 ⟨(m, (n : Int) - ((j + 1 : Nat) : Int)), mem_zip.2 ⟨b, hm1, hob⟩, ?_⟩
    rw [hval m _ hmp hm3 hmd rfl]
    exact List.mem_singleton.2 rfl
end
end Go.Proofs.Ytmocggibcniggaa.Kt
namespace Go.Proofs.Ytmocggibcniggaa.Kt
open Go Kw Go.Proofs
attribute [local irreducible] Kw.GI Kw.GR Kw.FnR Kw.FnX Kw.FnI
set_option maxHeartbeats 16000000
set_option maxRecDepth 100000
abbrev hEt (p b g u : Int) (x : AV) : Option (TypeId × List AV) := some (81, [I p, I b, I g, I u, x])
abbrev avEt (p b g u : Int) (l : List Ot) : AV := .agg [I p, I b, I g, I u, fsOt l]
/-- What Entry answers, where s is the source, t the tree, a the router's place. -/
def EntR (m : Mp) (ms : List Vt) (ps : List Pt) (g : Int) (s : Src) (t : List Nd) : Option Nat → AV → Prop
  | none, r => r = .tup [avEt 0 0 0 0 [], I 7]
  | some a, r => ∃ n o outs, t[a]? = some n ∧ Rch t m.wl ms o ∧ EntO (outs0 t a o ps g) (upF t n ps s.p s.b) outs ∧ r = .tup [avEt s.p s.b g (upF t n ps s.p s.b) outs, I 0]
def entP (s : Src) (t : List Nd) (self : Int) : Option Nat := match s.ok with
  | true => placeL t ⟨1, self⟩
  | false => none
abbrev REnt (m : Mp) (ms : List Vt) (self : Int) (ps : List Pt) (src g : Int) : AV → Hp → Sp → Prop := fun r H S => EntR m ms ps g (srcF src m) (castT m (srcF src m)) (entP (srcF src m) (castT m (srcF src m)) self) r ∧ H = [] ∧ S = []
theorem tre_castT {l : List Ls} (hf : Few l) (s : Src) : Tre (castT (mapL l) s) := by
  unfold castT
  split
  · by_cases hv : s.v ∈ (mapL l).vs
    · exact (tr_of hf hv).tre
    · unfold refTree
      rw [show (mapL l).vs.any (fun x => decide (x = s.v)) = false from ?_]
      · exact tre_nil
      · rw [← Bool.not_eq_true, List.any_eq_true]
        rintro ⟨y, hy, he⟩
        exact hv (of_decide_eq_true he ▸ hy)
  · exact tre_nil
theorem pTr {b : Bool} : ∀ r H1 S1, (r = Bo b ∧ H1 = [] ∧ S1 = []) → stA r = true ∧ StH H1 ∧ StS S1 := by
  rintro r H S ⟨rfl, rfl, rfl⟩
  exact ⟨rfl, StH.nil, stS_nil⟩
theorem Entry_ok (l : List Ls) (hf : Few l) (ms : List Vt) (hms : ms.length < 1000000) (self : Int) (ps : List Pt) (hps : ps.length < 1000000) (hok : ∀ p ∈ ps, PtOk p) (src g : Int) : FnX Try.prog 36 [avMf (mapL l), rsV ms, I self, fsPt ps, I src, I g] [] [] (REnt (mapL l) ms self ps src g) := by
  have hvl : (vertsL l).length ≤ 2000 := map_vs hf
  have hsn : (mapL l).sn.length < 1000000 := by
    have := flat_len (snF_len l) (vertsL l)
    show ((vertsL l).flatMap (snF l)).length < _
    omega
  have hsb : (mapL l).sb.length < 100000000 := by
    have := flat_len (fun v => sbF_len hf v) (vertsL l)
    show ((vertsL l).flatMap (sbF l)).length < _
    omega
  have hwl : (mapL l).wl.length < 1000000 := by
    have := flat_len (fun v => wlF_len l v) (vertsL l)
    show ((vertsL l).flatMap (wlF l)).length < _
    omega
  have hPT := pTreeC_ok l hf src hsn hsb
  have hSr := pSource_ok (mapL l) src hsn hsb
  have hlt : (castT (mapL l) (srcF src (mapL l))).length < 1000000 := by
    unfold castT
    split
    · exact tree_lt hf _
    · exact (by decide : 0 < 1000000)
  have hT0 := tre_castT hf (srcF src (mapL l))
  show FnX _ _ _ _ _ (fun r H S => EntR (mapL l) ms ps g (srcF src (mapL l)) (castT (mapL l) (srcF src (mapL l))) (entP (srcF src (mapL l)) (castT (mapL l) (srcF src (mapL l))) self) r ∧ H = [] ∧ S = [])
  generalize castT (mapL l) (srcF src (mapL l)) = t at hPT hlt hT0 ⊢
  generalize srcF src (mapL l) = s at hSr ⊢
  generalize mapL l = m at hPT hSr hsn hsb hwl ⊢
  refine fnX_intro (T := TT) (n := 161) Try.func36 rfl rfl rfl (fun w X Z Y B => ?_)
  (repeat (first | refine r_end ?_ | (refine r_op ?_; first | refine r_pure hT rfl rfl rfl rfl rfl rfl ?_ | refine r_load hT rfl rfl rfl rfl rfl rfl rfl rfl rfl ?_ | refine r_box rfl rfl rfl rfl rfl rfl rfl rfl rfl ?_ | refine r_alloc hT rfl rfl rfl rfl rfl rfl rfl rfl rfl ?_) | refine gi_seq ?_ | refine gi_plain ?_))
  refine r_call (hSr) rfl rfl rfl rfl rfl rfl rfl rfl Try.func16 rfl rfl rfl pSrc ?_
  rintro r S1 ⟨rfl, rfl⟩
  (repeat (first | refine r_end ?_ | (refine r_op ?_; first | refine r_pure hT rfl rfl rfl rfl rfl rfl ?_ | refine r_load hT rfl rfl rfl rfl rfl rfl rfl rfl rfl ?_ | refine r_store hT rfl rfl rfl rfl rfl rfl rfl rfl rfl rfl ?_ | refine r_alloc hT rfl rfl rfl rfl rfl rfl rfl rfl rfl ?_) | refine gi_seq ?_ | refine gi_plain ?_))
  refine r_callX [] [] (hPT) rfl rfl rfl rfl rfl rfl Try.func18 rfl rfl rfl rfl rfl rfl rfl pNd ?_
  rintro r H1 S1 ⟨rfl, rfl, rfl⟩
  (repeat (first | refine r_end ?_ | (refine r_op ?_; refine r_pure hT rfl rfl rfl rfl rfl rfl ?_) | refine gi_seq ?_))
  refine gi_freeze 0 (L' := t.map Nd.row) rfl rfl ?_
  refine gi_weak (F' := [(18, fsNd t), (15, I s.p), (16, I s.b), (17, Bo s.ok), (6, .box 0 0), (12, .box 1 0), (1, rsV ms), (2, I self), (3, fsPt ps), (5, I g)]) (H' := [hMf m, hEt 0 0 0 0 (.r (.v (.slice none 0 0)))]) (S' := []) ⟨rfl, rfl, rfl, rfl, rfl, rfl, rfl, rfl, rfl, rfl, trivial⟩ ⟨rfl, rfl, trivial⟩ trivial rfl ?_
  (repeat (first | (refine r_op ?_; refine r_pure hT rfl rfl rfl rfl rfl rfl ?_) | refine gi_plain ?_))
  refine r_thaw 41 rfl ?_
  refine r_call (pPlace_ok t ⟨1, self⟩ hlt) rfl rfl rfl rfl rfl rfl rfl rfl Try.func61 rfl rfl rfl pI ?_
  rintro r S1 ⟨rfl, rfl⟩
  (repeat (first | refine r_end ?_ | (refine r_op ?_; refine r_pure hT rfl rfl rfl rfl rfl rfl ?_) | refine gi_seq ?_ | refine gi_plain ?_))
  refine r_case (d := 47) rfl (fun c1 => ?_) (fun c1 => ?_)
  · have hne : entP s t self = none := by unfold entP; rw [notB_eq] at c1; cases hs : s.ok with
      | true => rw [hs] at c1; cases c1
      | false => rfl
    (repeat (first | refine r_end ?_ | (refine r_op ?_; first | refine r_pure hT rfl rfl rfl rfl rfl rfl ?_ | refine r_store hT rfl rfl rfl rfl rfl rfl rfl rfl rfl rfl ?_ | refine r_off rfl rfl rfl rfl rfl ?_) | refine gi_seq ?_ | refine gi_plain ?_ | (refine gi_cnd ?_; first | refine gi_true rfl ?_ | refine gi_false rfl ?_)))
    refine gi_nilH 1 4 2 rfl rfl ?_
    refine gi_retX hT Try.func36 rfl [] [] rfl rfl rfl rfl rfl rfl rfl rfl ?_
    exact ⟨by rw [hne]; rfl, rfl, rfl⟩
  have hpl : entP s t self = placeL t ⟨1, self⟩ := by unfold entP; rw [notB_eq] at c1; cases hs : s.ok with
      | true => rfl
      | false => rw [hs] at c1; cases c1
  rw [hpl]
  (repeat (first | refine r_end ?_ | (refine r_op ?_; refine r_pure hT rfl rfl rfl rfl rfl rfl ?_)))
  cases hp : placeL t ⟨1, self⟩ with
  | none =>
    refine gi_known (d := 50) (b := true) rfl (by rw [ltB_eq]; rfl) ?_
    (repeat (first | refine r_end ?_ | (refine r_op ?_; first | refine r_pure hT rfl rfl rfl rfl rfl rfl ?_ | refine r_store hT rfl rfl rfl rfl rfl rfl rfl rfl rfl rfl ?_) | refine gi_seq ?_ | refine gi_plain ?_ | (refine gi_cnd ?_; first | refine gi_true rfl ?_ | refine gi_false rfl ?_)))
    refine gi_nilH 1 4 2 rfl rfl ?_
    refine gi_retX hT Try.func36 rfl [] [] rfl rfl rfl rfl rfl rfl rfl rfl ?_
    exact ⟨rfl, rfl, rfl⟩
  | some a =>
    obtain ⟨n, hn, hnv⟩ := placeL_some hp
    have hal := (List.getElem?_eq_some_iff.1 hn).1
    refine gi_known (d := 50) (b := false) rfl (by rw [ltB_eq]; exact decide_eq_false (by show ¬ ((a : Nat) : Int) < 0; omega)) ?_
    (repeat (first | refine gi_seq ?_ | refine gi_skip ?_ | (refine gi_cnd ?_; first | refine gi_true rfl ?_ | refine gi_false rfl ?_)))
    refine gi_weak (F' := [(19, I (a : Int)), (18, fsNd t), (15, I s.p), (16, I s.b), (6, .box 0 0), (12, .box 1 0), (1, rsV ms), (3, fsPt ps), (5, I g)]) (H' := [hMf m, hEt 0 0 0 0 (.r (.v (.slice none 0 0)))]) (S' := []) ⟨rfl, rfl, rfl, rfl, rfl, rfl, rfl, rfl, rfl, trivial⟩ ⟨rfl, rfl, trivial⟩ trivial rfl ?_
    (repeat (first | (refine r_op ?_; refine r_pure hT rfl rfl rfl rfl rfl rfl ?_) | refine gi_plain ?_))
    refine r_thaw 55 rfl ?_
    refine r_call (up_ok t hT0 a n hn ps hps s.p s.b) rfl rfl rfl rfl rfl rfl rfl rfl Try.func71 rfl rfl rfl pI ?_
    rintro r S1 ⟨rfl, rfl⟩
    obtain ⟨up, hup⟩ : ∃ up, up = upF t n ps s.p s.b := ⟨_, rfl⟩
    rw [← hup]
    (repeat (first | refine r_end ?_ | (refine r_op ?_; first | refine r_pure hT rfl rfl rfl rfl rfl rfl ?_ | refine r_load hT rfl rfl rfl rfl rfl rfl rfl rfl rfl ?_ | refine r_store hT rfl rfl rfl rfl rfl rfl rfl rfl rfl rfl ?_ | refine r_alloc hT rfl rfl rfl rfl rfl rfl rfl rfl rfl ?_) | refine gi_seq ?_ | refine gi_plain ?_))
    refine r_callX [] [] (pReach_ok t m ms hlt hwl hms) rfl rfl rfl rfl rfl rfl Try.func23 rfl rfl rfl rfl rfl rfl rfl pRch ?_
    rintro r H1 S1 ⟨rfl, rfl, o, rfl, hA⟩
    have hol := hA.lo
    (repeat (first | refine r_end ?_ | (refine r_op ?_; refine r_pure hT rfl rfl rfl rfl rfl rfl ?_) | refine gi_seq ?_ | refine gi_plain_ne 9 rfl ?_))
    refine gi_freeze 0 (L' := o.map nRow) rfl rfl ?_
    refine gi_thaw 21 rfl ?_
    refine gi_thaw 18 rfl ?_
    refine gi_pick [0, 1, 2] [] rfl rfl rfl rfl rfl ?_
    refine gi_adopt (e := 90) (sz := 2) 22 rfl ?_
    refine gi_adoptH (e := 90) (sz := 2) 2 4 rfl rfl ?_
    refine gi_weak (F' := [(22, .sl 0), (21, rsN o), (20, .box 2 0), (19, I (a : Int)), (18, rsNd t), (12, .box 1 0), (3, fsPt ps), (5, I g)]) (H' := [hMf m, hEt 0 0 0 0 (.r (.v (.slice none 0 0))), hEt s.p s.b g up (.sl 1)]) (S' := [eOt [], eOt []]) ⟨rfl, rfl, rfl, rfl, rfl, rfl, rfl, rfl, trivial⟩ ⟨rfl, rfl, rfl, trivial⟩ ⟨rfl, rfl, trivial⟩ rfl ?_
    obtain ⟨Z, hZ⟩ : ∃ Z, Z = t.zip o := ⟨_, rfl⟩
    have hZe : ∀ (i : Nat) (x : Nd) (y : Int), t[i]? = some x → o[i]? = some y → Z[i]? = some (x, y) := fun i x y h1 h2 => by rw [hZ]; exact List.getElem?_zip_eq_some.2 ⟨h1, h2⟩
    have hZt : Z.length = t.length := by rw [hZ, List.length_zip, hol, Nat.min_self]
    have hZl : ∀ j, ((Z.take j).flatMap (out1 a)).length < 1000000 := fun j => by
      have h1 := flat_len (out1_len a) (Z.take j)
      rw [List.length_take] at h1
      omega
    (repeat (first | refine r_end ?_ | (refine r_op ?_; refine r_pure hT rfl rfl rfl rfl rfl rfl ?_) | refine gi_plain ?_ | refine gi_block ?_))
    refine gi_loop (σ := Nat) (fun j => [(68, I (j : Int)), (67, I (t.length : Int)), (66, rsNd t), (22, .sl 0), (21, rsN o), (20, .box 2 0), (19, I (a : Int)), (12, .box 1 0), (3, fsPt ps), (5, I g)]) (fun _ => [hMf m, hEt 0 0 0 0 (.r (.v (.slice none 0 0))), hEt s.p s.b g up (.sl 1)]) (fun j => [eOt ((Z.take j).flatMap (out1 a)), eOt []]) (fun j => j ≤ t.length) (fun j => t.length - j) 0 (Nat.zero_le _) ⟨rfl, by show some (I ((t.map Nd.row).length : Nat)) = _; rw [List.length_map], rfl, rfl, rfl, rfl, rfl, rfl, rfl, rfl, trivial⟩ ⟨rfl, rfl, rfl, trivial⟩ ⟨rfl, rfl, trivial⟩ (fun _ => rfl) (fun j hj next => ?_)
    have hj : j ≤ t.length := hj
    (repeat (first | refine r_end ?_ | (refine r_op ?_; refine r_pure hT rfl rfl rfl rfl rfl rfl ?_) | refine gi_seq ?_ | refine gi_plain ?_))
    refine gi_lt rfl (fun h3 => ?_) (fun h3 => ?_)
    · have hjl : j < t.length := by omega
      obtain ⟨x, hx⟩ : ∃ x, t[j]? = some x := ⟨_, List.getElem?_eq_getElem hjl⟩
      obtain ⟨y, hy⟩ : ∃ y, o[j]? = some y := ⟨_, List.getElem?_eq_getElem (by omega)⟩
      have hst := flat_take (out1 a) (hZe j x y hx hy)
      have hlj := hZl j
      have on : ∀ L, (Z.take j).flatMap (out1 a) ++ out1 a (x, y) = L → ∀ F1 H1 S1, SubF [(68, I (wr .i64 ((j : Int) + 1))), (67, I (t.length : Int)), (66, rsNd t), (22, .sl 0), (21, rsN o), (20, .box 2 0), (19, I (a : Int)), (12, .box 1 0), (3, fsPt ps), (5, I g)] F1 → SubH [hMf m, hEt 0 0 0 0 (.r (.v (.slice none 0 0))), hEt s.p s.b g up (.sl 1)] H1 → SubS [eOt L, eOt []] S1 → GI _ _ F1 H1 S1 := fun L hL F1 H1 S1 hF hH hS => by
        refine next (j + 1) F1 H1 S1 hjl (by omega) ?_ hH ?_
        · rw [wadd1 (by omega)] at hF; exact hF
        · rw [hst, hL]; exact hS
      clear next
      have ho : out1 a (x, y) = out1 a (x, y) := rfl
      conv at ho => rhs; unfold out1
      (repeat (first | (refine r_op ?_; refine r_pure hT rfl rfl rfl rfl rfl rfl ?_) | refine gi_seq ?_ | refine gi_plain ?_ | refine gi_skip ?_ | refine gi_block ?_))
      refine r_idx (row := x.row) hT rfl rfl rfl rfl rfl rfl rfl rfl rfl rfl rfl rfl (nn j) (by simp [hx]) ?_
      (repeat (first | refine r_end ?_ | (refine r_op ?_; first | refine r_pure hT rfl rfl rfl rfl rfl rfl ?_ | refine r_load hT rfl rfl rfl rfl rfl rfl rfl rfl rfl ?_ | refine r_store hT rfl rfl rfl rfl rfl rfl rfl rfl rfl rfl ?_ | refine r_alloc hT rfl rfl rfl rfl rfl rfl rfl rfl rfl ?_) | refine gi_seq ?_ | refine gi_plain ?_))
      refine r_idx (row := nRow y) hT rfl rfl rfl rfl rfl rfl rfl rfl rfl rfl rfl rfl (nn j) (by simp [hy]) ?_
      (repeat (first | refine r_end ?_ | (refine r_op ?_; first | refine r_pure hT rfl rfl rfl rfl rfl rfl ?_ | refine r_load hT rfl rfl rfl rfl rfl rfl rfl rfl rfl ?_) | refine gi_seq ?_ | refine gi_plain ?_ | refine gi_block ?_))
      refine r_case (d := 82) rfl (fun c2 => ?_) (fun c2 => ?_)
      · have ho : out1 a (x, y) = [] := by
          rw [ho]
          show (match notB (eqB x.p a) || ltB y 0 with | true => [] | false => _) = _
          rw [c2]; rfl
        (repeat (first | refine r_end ?_ | (refine r_op ?_; first | refine r_pure hT rfl rfl rfl rfl rfl rfl ?_ | refine r_off rfl rfl rfl rfl rfl ?_) | refine gi_seq ?_ | refine gi_plain ?_ | refine gi_exit rfl ?_ | (refine gi_cnd ?_; first | refine gi_true rfl ?_ | refine gi_false rfl ?_)))
        refine on _ (by rw [ho, List.append_nil]) _ _ _ ⟨rfl, rfl, rfl, rfl, rfl, rfl, rfl, rfl, rfl, rfl, trivial⟩ ⟨rfl, rfl, rfl, trivial⟩ ⟨rfl, rfl, trivial⟩
      (repeat (first | refine r_end ?_ | (refine r_op ?_; refine r_pure hT rfl rfl rfl rfl rfl rfl ?_)))
      refine gi_cond rfl (fun c3 => ?_) (fun c3 => ?_)
      · have ho : out1 a (x, y) = [] := by
          rw [ho]
          show (match notB (eqB x.p a) || ltB y 0 with | true => [] | false => _) = _
          rw [c2, c3]; rfl
        (repeat (first | refine r_end ?_ | (refine r_op ?_; refine r_pure hT rfl rfl rfl rfl rfl rfl ?_) | refine gi_seq ?_ | refine gi_plain ?_ | refine gi_exit rfl ?_))
        refine on _ (by rw [ho, List.append_nil]) _ _ _ ⟨rfl, rfl, rfl, rfl, rfl, rfl, rfl, rfl, rfl, rfl, trivial⟩ ⟨rfl, rfl, rfl, trivial⟩ ⟨rfl, rfl, trivial⟩
      have ho : out1 a (x, y) = [⟨x.d, match eqB x.v.k 1 with | true => wr .i64 (y + 1) | false => y⟩] := by
        rw [ho]
        show (match notB (eqB x.p a) || ltB y 0 with | true => [] | false => _) = _
        rw [c2, c3]; rfl
      (repeat (first | refine r_end ?_ | (refine r_op ?_; first | refine r_pure hT rfl rfl rfl rfl rfl rfl ?_ | refine r_load hT rfl rfl rfl rfl rfl rfl rfl rfl rfl ?_) | refine gi_seq ?_ | refine gi_plain ?_ | refine gi_skip ?_))
      refine gi_cond rfl (fun c4 => ?_) (fun c4 => ?_)
      · have ho : out1 a (x, y) = [⟨x.d, wr .i64 (y + 1)⟩] := by rw [ho, c4]
        (repeat (first | refine r_end ?_ | (refine r_op ?_; first | refine r_pure hT rfl rfl rfl rfl rfl rfl ?_ | refine r_load hT rfl rfl rfl rfl rfl rfl rfl rfl rfl ?_ | refine r_lit hT rfl rfl rfl rfl rfl rfl rfl rfl rfl rfl rfl rfl rfl ?_) | refine gi_seq ?_ | refine gi_plain ?_ | refine gi_inBlock ?_ | refine gi_exit rfl ?_))
        refine r_append hT rfl rfl rfl rfl rfl rfl rfl rfl rfl rfl rfl rfl rfl rfl rfl rfl rfl (by simp only [List.length_cons, List.length_nil, List.length_map, maxLen]; exact ⟨by omega, by show _ * 16 ≤ _; omega⟩) ?_
        (repeat (first | refine r_end ?_ | (refine r_op ?_; refine r_pure hT rfl rfl rfl rfl rfl rfl ?_) | refine gi_plain ?_ | refine gi_inBlock ?_ | refine gi_exit rfl ?_))
        refine on ((Z.take j).flatMap (out1 a) ++ [⟨x.d, wr .i64 (y + 1)⟩]) (by rw [ho]) _ _ _ ⟨rfl, rfl, rfl, rfl, rfl, rfl, rfl, rfl, rfl, rfl, trivial⟩ ⟨rfl, rfl, rfl, trivial⟩ ⟨by rw [eOt, seOt, List.map_append]; rfl, rfl, trivial⟩
      · have ho : out1 a (x, y) = [⟨x.d, y⟩] := by rw [ho, c4]
        (repeat (first | (refine r_op ?_; first | refine r_pure hT rfl rfl rfl rfl rfl rfl ?_ | refine r_load hT rfl rfl rfl rfl rfl rfl rfl rfl rfl ?_ | refine r_lit hT rfl rfl rfl rfl rfl rfl rfl rfl rfl rfl rfl rfl rfl ?_) | refine gi_seq ?_ | refine gi_plain ?_ | refine gi_skip ?_ | refine gi_exit rfl ?_))
        refine r_append hT rfl rfl rfl rfl rfl rfl rfl rfl rfl rfl rfl rfl rfl rfl rfl rfl rfl (by simp only [List.length_cons, List.length_nil, List.length_map, maxLen]; exact ⟨by omega, by show _ * 16 ≤ _; omega⟩) ?_
        (repeat (first | refine r_end ?_ | (refine r_op ?_; refine r_pure hT rfl rfl rfl rfl rfl rfl ?_) | refine gi_plain ?_ | refine gi_inBlock ?_ | refine gi_exit rfl ?_))
        refine on ((Z.take j).flatMap (out1 a) ++ [⟨x.d, y⟩]) (by rw [ho]) _ _ _ ⟨rfl, rfl, rfl, rfl, rfl, rfl, rfl, rfl, rfl, rfl, trivial⟩ ⟨rfl, rfl, rfl, trivial⟩ ⟨by rw [eOt, seOt, List.map_append]; rfl, rfl, trivial⟩
    have hje : j = Z.length := by omega
    subst hje
    rw [List.take_length]
    have hAl := hZl Z.length
    rw [List.take_length] at hAl
    obtain ⟨A, hA0⟩ : ∃ A, A = Z.flatMap (out1 a) := ⟨_, rfl⟩
    rw [← hA0] at hAl ⊢
    clear next hZl hZe
    (repeat (first | refine gi_seq ?_ | refine gi_exit rfl ?_))
    refine gi_weak (F' := [(22, .sl 0), (20, .box 2 0), (12, .box 1 0), (3, fsPt ps), (5, I g)]) (H' := [hMf m, hEt 0 0 0 0 (.r (.v (.slice none 0 0))), hEt s.p s.b g up (.sl 1)]) (S' := [eOt A, eOt []]) ⟨rfl, rfl, rfl, rfl, rfl, trivial⟩ ⟨rfl, rfl, rfl, trivial⟩ ⟨rfl, rfl, trivial⟩ rfl ?_
    (repeat (first | refine r_end ?_ | (refine r_op ?_; refine r_pure hT rfl rfl rfl rfl rfl rfl ?_) | refine gi_plain ?_ | refine gi_block ?_))
    refine gi_thaw 101 rfl ?_
    refine gi_loop (σ := Nat) (fun j => [(103, I (j : Int)), (102, I (ps.length : Int)), (101, rsPt ps), (22, .sl 0), (20, .box 2 0), (12, .box 1 0), (5, I g)]) (fun _ => [hMf m, hEt 0 0 0 0 (.r (.v (.slice none 0 0))), hEt s.p s.b g up (.sl 1)]) (fun j => [eOt (A ++ (ps.take j).flatMap (out2 g)), eOt []]) (fun j => j ≤ ps.length) (fun j => ps.length - j) 0 (Nat.zero_le _) ⟨rfl, by show some (I ((ps.map Pt.row).length : Nat)) = _; rw [List.length_map], rfl, rfl, rfl, rfl, rfl, trivial⟩ ⟨rfl, rfl, rfl, trivial⟩ ⟨by rw [List.take_zero, List.flatMap_nil, List.append_nil], rfl, trivial⟩ (fun _ => rfl) (fun j hj next => ?_)
    have hj : j ≤ ps.length := hj
    have hlp : ∀ j, (A ++ (ps.take j).flatMap (out2 g)).length < 3000000 := fun j => by
      have h1 := flat_len (out2_len g) (ps.take j)
      rw [List.length_take] at h1
      rw [List.length_append]
      omega
    (repeat (first | refine r_end ?_ | (refine r_op ?_; refine r_pure hT rfl rfl rfl rfl rfl rfl ?_) | refine gi_seq ?_ | refine gi_plain ?_))
    refine gi_lt rfl (fun h3 => ?_) (fun h3 => ?_)
    · have hjl : j < ps.length := by omega
      obtain ⟨p, hpj⟩ : ∃ x, ps[j]? = some x := ⟨_, List.getElem?_eq_getElem hjl⟩
      have hpk := hok p (List.mem_of_getElem? hpj)
      have hst := flat_take (out2 g) hpj
      have hlj := hlp j
      have on : ∀ L, A ++ (ps.take j).flatMap (out2 g) ++ out2 g p = L → ∀ F1 H1 S1, SubF [(103, I (wr .i64 ((j : Int) + 1))), (102, I (ps.length : Int)), (101, rsPt ps), (22, .sl 0), (20, .box 2 0), (12, .box 1 0), (5, I g)] F1 → SubH [hMf m, hEt 0 0 0 0 (.r (.v (.slice none 0 0))), hEt s.p s.b g up (.sl 1)] H1 → SubS [eOt L, eOt []] S1 → GI _ _ F1 H1 S1 := fun L hL F1 H1 S1 hF hH hS => by
        refine next (j + 1) F1 H1 S1 hjl (by omega) ?_ hH ?_
        · rw [wadd1 (by omega)] at hF; exact hF
        · rw [hst, ← List.append_assoc, hL]; exact hS
      clear next hlp
      generalize A ++ (ps.take j).flatMap (out2 g) = B at on hlj ⊢
      have ho : out2 g p = out2 g p := rfl
      conv at ho => rhs; unfold out2
      (repeat (first | refine gi_seq ?_ | refine gi_plain ?_ | refine gi_skip ?_ | refine gi_block ?_))
      refine r_idx (row := p.row) hT rfl rfl rfl rfl rfl rfl rfl rfl rfl rfl rfl rfl (nn j) (by simp [hpj]) ?_
      (repeat (first | refine r_end ?_ | (refine r_op ?_; first | refine r_load hT rfl rfl rfl rfl rfl rfl rfl rfl rfl ?_ | refine r_store hT rfl rfl rfl rfl rfl rfl rfl rfl rfl rfl ?_ | refine r_alloc hT rfl rfl rfl rfl rfl rfl rfl rfl rfl ?_) | refine gi_seq ?_ | refine gi_plain ?_))
      refine r_callX [] [] (Transit_ok p hpk) rfl rfl rfl rfl rfl rfl Try.func72 rfl rfl rfl rfl rfl rfl rfl pTr ?_
      rintro r H1 S1 ⟨rfl, rfl, rfl⟩
      (repeat ((refine r_op ?_; refine r_pure hT rfl rfl rfl rfl rfl rfl ?_)))
      refine r_case (d := 110) rfl (fun c2 => ?_) (fun c2 => ?_)
      · rw [c2] at ho
        (repeat ((refine r_op ?_; first | refine r_pure hT rfl rfl rfl rfl rfl rfl ?_ | refine r_load hT rfl rfl rfl rfl rfl rfl rfl rfl rfl ?_)))
        refine r_thaw 112 rfl ?_
        refine r_call (ContainsI_ok p.gs g hpk.2) rfl rfl rfl rfl rfl rfl rfl rfl Try.func54 rfl rfl rfl pB ?_
        rintro r S1 ⟨rfl, rfl⟩
        (repeat (first | refine r_end ?_ | (refine r_op ?_; refine r_pure hT rfl rfl rfl rfl rfl rfl ?_)))
        refine gi_cond rfl (fun c3 => ?_) (fun c3 => ?_)
        · rw [c3] at ho
          have ho : out2 g p = [⟨p.a, 1⟩] := ho
          (repeat (first | (refine r_op ?_; first | refine r_pure hT rfl rfl rfl rfl rfl rfl ?_ | refine r_load hT rfl rfl rfl rfl rfl rfl rfl rfl rfl ?_ | refine r_lit hT rfl rfl rfl rfl rfl rfl rfl rfl rfl rfl rfl rfl rfl ?_) | refine gi_plain ?_))
          refine r_append hT rfl rfl rfl rfl rfl rfl rfl rfl rfl rfl rfl rfl rfl rfl rfl rfl rfl (by simp only [List.length_cons, List.length_nil, List.length_map, maxLen]; exact ⟨by omega, by show _ * 16 ≤ _; omega⟩) ?_
          (repeat (first | refine r_end ?_ | (refine r_op ?_; refine r_pure hT rfl rfl rfl rfl rfl rfl ?_) | refine gi_plain ?_ | refine gi_inBlock ?_))
          refine on (B ++ [⟨p.a, 1⟩]) (by rw [ho]) _ _ _ ⟨rfl, rfl, rfl, rfl, rfl, rfl, rfl, trivial⟩ ⟨rfl, rfl, rfl, trivial⟩ ⟨by rw [eOt, seOt, List.map_append]; rfl, rfl, trivial⟩
        · rw [c3] at ho
          have ho : out2 g p = [] := ho
          (repeat (first | refine r_end ?_ | (refine r_op ?_; refine r_pure hT rfl rfl rfl rfl rfl rfl ?_) | refine gi_plain ?_ | refine gi_skip ?_ | refine gi_inBlock ?_))
          refine on _ (by rw [ho, List.append_nil]) _ _ _ ⟨rfl, rfl, rfl, rfl, rfl, rfl, rfl, trivial⟩ ⟨rfl, rfl, rfl, trivial⟩ ⟨rfl, rfl, trivial⟩
      · rw [c2] at ho
        have ho : out2 g p = [] := ho
        (repeat (first | refine r_end ?_ | (refine r_op ?_; first | refine r_pure hT rfl rfl rfl rfl rfl rfl ?_ | refine r_off rfl rfl rfl rfl rfl ?_) | refine gi_plain ?_ | refine gi_skip ?_ | refine gi_inBlock ?_ | (refine gi_cnd ?_; first | refine gi_true rfl ?_ | refine gi_false rfl ?_)))
        refine on _ (by rw [ho, List.append_nil]) _ _ _ ⟨rfl, rfl, rfl, rfl, rfl, rfl, rfl, trivial⟩ ⟨rfl, rfl, rfl, trivial⟩ ⟨rfl, rfl, trivial⟩
    have hje : j = ps.length := by omega
    subst hje
    rw [List.take_length]
    have hLl := hlp ps.length
    rw [List.take_length] at hLl
    clear next hlp
    have hO0 : outs0 t a o ps g = A ++ ps.flatMap (out2 g) := by unfold outs0; rw [hA0, hZ]
    generalize A ++ ps.flatMap (out2 g) = O at hLl hO0 ⊢
    apply gi_cut (σ := List Ot) (fun _ => [(22, .sl 0), (20, .box 2 0), (12, .box 1 0)]) (fun _ => [hMf m, hEt 0 0 0 0 (.r (.v (.slice none 0 0))), hEt s.p s.b g up (.sl 1)]) (fun L => [eOt L, eOt []]) (fun L => L.Perm O ∧ SrtO L) (fun _ => rfl)
    case first =>
      intro fin
      (repeat (first | refine gi_seq ?_ | refine gi_exit rfl ?_))
      refine gi_weak (F' := [(22, .sl 0), (20, .box 2 0), (12, .box 1 0)]) (H' := [hMf m, hEt 0 0 0 0 (.r (.v (.slice none 0 0))), hEt s.p s.b g up (.sl 1)]) (S' := [eOt O, eOt []]) ⟨rfl, rfl, rfl, trivial⟩ ⟨rfl, rfl, rfl, trivial⟩ ⟨rfl, rfl, trivial⟩ rfl ?_
      (repeat (first | (refine r_op ?_; refine r_pure hT rfl rfl rfl rfl rfl rfl ?_) | refine gi_plain ?_))
      by_cases hne : O = []
      · subst hne
        refine r_call (sort0_ok) rfl rfl rfl rfl rfl rfl rfl rfl Try.func73 rfl rfl rfl pT0 ?_
        rintro r S1 ⟨rfl, rfl⟩
        (repeat (first | refine r_end ?_ | refine gi_seq ?_))
        exact fin [] _ _ _ ⟨List.Perm.refl _, SrtO.nil⟩ ⟨rfl, rfl, rfl, trivial⟩ ⟨rfl, rfl, rfl, trivial⟩ ⟨rfl, rfl, trivial⟩
      refine r_sortO (kn := 0) O rfl (by omega) hne rfl rfl rfl rfl rfl rfl rfl (fun L h1 h2 => ?_)
      (repeat (first | refine r_end ?_ | refine gi_seq ?_))
      exact fin L _ _ _ ⟨h1, h2⟩ ⟨rfl, rfl, rfl, trivial⟩ ⟨rfl, rfl, rfl, trivial⟩ ⟨rfl, rfl, trivial⟩
    case after =>
      intro L hL
      obtain ⟨hL1, hL2⟩ := hL
      have hEn := uq_ent hL1 hL2 up
      have hLl : L.length < 3000000 := by rw [hL1.length_eq]; exact hLl
      rw [← hO0] at hEn
      skip
      refine gi_weak (F' := [(22, .sl 0), (20, .box 2 0), (12, .box 1 0)]) (H' := [hMf m, hEt 0 0 0 0 (.r (.v (.slice none 0 0))), hEt s.p s.b g up (.sl 1)]) (S' := [eOt L, eOt []]) ⟨rfl, rfl, rfl, trivial⟩ ⟨rfl, rfl, rfl, trivial⟩ ⟨rfl, rfl, trivial⟩ rfl ?_
      (repeat (first | refine r_end ?_ | (refine r_op ?_; refine r_pure hT rfl rfl rfl rfl rfl rfl ?_) | refine gi_plain ?_ | refine gi_block ?_))
      refine gi_loop (σ := Nat) (fun j => [(128, I (j : Int)), (127, I (L.length : Int)), (126, .sl 0), (22, .sl 0), (20, .box 2 0), (12, .box 1 0)]) (fun _ => [hMf m, hEt 0 0 0 0 (.r (.v (.slice none 0 0))), hEt s.p s.b g up (.sl 1)]) (fun j => [eOt L, eOt (uqN up L j)]) (fun j => j ≤ L.length) (fun j => L.length - j) 0 (Nat.zero_le _) ⟨rfl, by show some (I ((L.map Ot.row).length : Nat)) = _; rw [List.length_map], rfl, rfl, rfl, rfl, trivial⟩ ⟨rfl, rfl, rfl, trivial⟩ ⟨rfl, rfl, trivial⟩ (fun _ => rfl) (fun j hj next => ?_)
      have hj : j ≤ L.length := hj
      have huq := uqN_len up L j
      (repeat (first | refine r_end ?_ | (refine r_op ?_; refine r_pure hT rfl rfl rfl rfl rfl rfl ?_) | refine gi_seq ?_ | refine gi_plain ?_))
      refine gi_lt rfl (fun h3 => ?_) (fun h3 => ?_)
      · have hjl : j < L.length := by omega
        obtain ⟨x, hx⟩ : ∃ x, L[j]? = some x := ⟨_, List.getElem?_eq_getElem hjl⟩
        have hst := uqN_step (up := up) hx
        have on : ∀ b, kpB up L j x = b → ∀ F1 H1 S1, SubF [(128, I (wr .i64 ((j : Int) + 1))), (127, I (L.length : Int)), (126, .sl 0), (22, .sl 0), (20, .box 2 0), (12, .box 1 0)] F1 → SubH [hMf m, hEt 0 0 0 0 (.r (.v (.slice none 0 0))), hEt s.p s.b g up (.sl 1)] H1 → SubS [eOt L, eOt (uqN up L j ++ (match b with | true => [x] | false => []))] S1 → GI _ _ F1 H1 S1 := fun b hb F1 H1 S1 hF hH hS => by
          refine next (j + 1) F1 H1 S1 hjl (by omega) ?_ hH ?_
          · rw [wadd1 (by omega)] at hF; exact hF
          · rw [hst, hb]; exact hS
        clear next
        have ho : kpB up L j x = kpB up L j x := rfl
        conv at ho => rhs; unfold kpB
        (repeat (first | (refine r_op ?_; refine r_pure hT rfl rfl rfl rfl rfl rfl ?_) | refine gi_seq ?_ | refine gi_plain ?_ | refine gi_skip ?_ | refine gi_block ?_))
        refine r_idxS hT rfl rfl rfl rfl rfl rfl rfl rfl rfl rfl rfl rfl rfl (nn j) (by show j < (L.map Ot.row).length; rw [List.length_map]; exact hjl) ?_
        skip
        refine r_loadS (row := x.row) hT rfl rfl rfl rfl rfl rfl rfl rfl (by show (L.map Ot.row)[j]? = _; rw [List.getElem?_map, hx]; rfl) rfl rfl rfl ?_
        (repeat (first | refine r_end ?_ | (refine r_op ?_; first | refine r_pure hT rfl rfl rfl rfl rfl rfl ?_ | refine r_store hT rfl rfl rfl rfl rfl rfl rfl rfl rfl rfl ?_ | refine r_alloc hT rfl rfl rfl rfl rfl rfl rfl rfl rfl ?_) | refine gi_seq ?_))
        refine gi_drawM [] [(0, .p), (2, .p), (1, .t), (3, .t), (4, .p), (5, .p), (6, .p), (7, .p), (8, .p), (9, .p), (10, .p), (11, .p), (12, .p), (13, .p), (15, .p), (14, .t), (16, .t), (17, .p), (18, .p), (19, .p)] [0, 1, 0, 4, 10, 16, 32, 96, 160, 256, 256, 1280, 2816, 4352, 8448, 256, 33024, 82176, 131360, 262176] [0, 1, 0, 4, 10, 16, 32, 96, 160, 256, 256, 1280, 2816, 4352, 8448, 256, 33024, 82176, 131360, 262176] Kt.hm rfl (by kernel_rfl) (fun w1 K => ?_)
        (repeat ((refine r_op ?_; first | refine r_pure hT rfl rfl rfl rfl rfl rfl ?_ | refine r_load hT rfl rfl rfl rfl rfl rfl rfl rfl rfl ?_)))
        refine r_case (d := 138) rfl (fun c2 => ?_) (fun c2 => ?_)
        · rw [c2] at ho
          (repeat ((refine r_op ?_; refine r_pure hT rfl rfl rfl rfl rfl rfl ?_)))
          refine r_case (d := 141) rfl (fun c3 => ?_) (fun c3 => ?_)
          · rw [c3] at ho
            have ho : kpB up L j x = true := ho
            (repeat (first | refine r_end ?_ | (refine r_op ?_; first | refine r_pure hT rfl rfl rfl rfl rfl rfl ?_ | refine r_load hT rfl rfl rfl rfl rfl rfl rfl rfl rfl ?_ | refine r_off rfl rfl rfl rfl rfl ?_ | refine r_lit hT rfl rfl rfl rfl rfl rfl rfl rfl rfl rfl rfl rfl rfl ?_) | refine gi_plain ?_ | (refine gi_cnd ?_; first | refine gi_true rfl ?_ | refine gi_false rfl ?_)))
            refine r_append hT rfl rfl rfl rfl rfl rfl rfl rfl rfl rfl rfl rfl rfl rfl rfl rfl rfl (by simp only [List.length_cons, List.length_nil, List.length_map, maxLen]; exact ⟨by omega, by show _ * 16 ≤ _; omega⟩) ?_
            (repeat (first | refine r_end ?_ | (refine r_op ?_; first | refine r_pure hT rfl rfl rfl rfl rfl rfl ?_ | refine r_store hT rfl rfl rfl rfl rfl rfl rfl rfl rfl rfl ?_) | refine gi_plain ?_ | refine gi_inBlock ?_))
            refine on true ho _ _ _ ⟨rfl, rfl, rfl, rfl, rfl, rfl, trivial⟩ ⟨rfl, rfl, rfl, trivial⟩ ⟨rfl, by rw [eOt, seOt, List.map_append]; rfl, trivial⟩
          · rw [c3] at ho
            rw [eqB_eq] at c3
            have c3 := of_decide_eq_false c3
            obtain ⟨y, hy⟩ : ∃ x, L[j - 1]? = some x := ⟨_, List.getElem?_eq_getElem (by omega)⟩
            have ho : kpB up L j x = notB (eqB y.a x.a) := by
              rw [ho, List.getD_eq_getElem?_getD, hy]; rfl
            (repeat ((refine r_op ?_; refine r_pure hT rfl rfl rfl rfl rfl rfl ?_)))
            refine r_turn (d := 144) (y := I ((j - 1 : Nat) : Int)) rfl (by rw [wr_i64 (by omega) (by omega)]; congr 3; omega) ?_
            refine r_idxS hT rfl rfl rfl rfl rfl rfl rfl rfl rfl rfl rfl rfl rfl (nn (j - 1)) (by show j - 1 < (L.map Ot.row).length; rw [List.length_map]; omega) ?_
            (repeat ((refine r_op ?_; refine r_pure hT rfl rfl rfl rfl rfl rfl ?_)))
            refine r_loadS (row := y.row) hT rfl rfl rfl rfl rfl rfl rfl rfl (by show (L.map Ot.row)[j - 1]? = _; rw [List.getElem?_map, hy]; rfl) rfl rfl rfl ?_
            (repeat (first | refine r_end ?_ | (refine r_op ?_; first | refine r_pure hT rfl rfl rfl rfl rfl rfl ?_ | refine r_load hT rfl rfl rfl rfl rfl rfl rfl rfl rfl ?_)))
            refine gi_cond rfl (fun c4 => ?_) (fun c4 => ?_)
            · rw [c4] at ho
              (repeat (first | (refine r_op ?_; first | refine r_pure hT rfl rfl rfl rfl rfl rfl ?_ | refine r_load hT rfl rfl rfl rfl rfl rfl rfl rfl rfl ?_ | refine r_lit hT rfl rfl rfl rfl rfl rfl rfl rfl rfl rfl rfl rfl rfl ?_) | refine gi_plain ?_))
              refine r_append hT rfl rfl rfl rfl rfl rfl rfl rfl rfl rfl rfl rfl rfl rfl rfl rfl rfl (by simp only [List.length_cons, List.length_nil, List.length_map, maxLen]; exact ⟨by omega, by show _ * 16 ≤ _; omega⟩) ?_
              (repeat (first | refine r_end ?_ | (refine r_op ?_; first | refine r_pure hT rfl rfl rfl rfl rfl rfl ?_ | refine r_store hT rfl rfl rfl rfl rfl rfl rfl rfl rfl rfl ?_) | refine gi_plain ?_ | refine gi_inBlock ?_))
              refine on true ho _ _ _ ⟨rfl, rfl, rfl, rfl, rfl, rfl, trivial⟩ ⟨rfl, rfl, rfl, trivial⟩ ⟨rfl, by rw [eOt, seOt, List.map_append]; rfl, trivial⟩
            · rw [c4] at ho
              (repeat (first | refine r_end ?_ | (refine r_op ?_; refine r_pure hT rfl rfl rfl rfl rfl rfl ?_) | refine gi_plain ?_ | refine gi_skip ?_ | refine gi_inBlock ?_))
              refine on false ho _ _ _ ⟨rfl, rfl, rfl, rfl, rfl, rfl, trivial⟩ ⟨rfl, rfl, rfl, trivial⟩ ⟨rfl, by simp, trivial⟩
        · rw [c2] at ho
          have ho : kpB up L j x = false := ho
          (repeat (first | refine r_end ?_ | (refine r_op ?_; first | refine r_pure hT rfl rfl rfl rfl rfl rfl ?_ | refine r_off rfl rfl rfl rfl rfl ?_) | refine gi_plain ?_ | refine gi_skip ?_ | refine gi_inBlock ?_ | (refine gi_cnd ?_; first | refine gi_true rfl ?_ | refine gi_false rfl ?_)))
          refine on false ho _ _ _ ⟨rfl, rfl, rfl, rfl, rfl, rfl, trivial⟩ ⟨rfl, rfl, rfl, trivial⟩ ⟨rfl, by simp, trivial⟩
      · have hje : j = L.length := by omega
        subst hje
        generalize uqN up L L.length = U at hEn huq ⊢
        (repeat (first | refine r_end ?_ | (refine r_op ?_; first | refine r_pure hT rfl rfl rfl rfl rfl rfl ?_ | refine r_load hT rfl rfl rfl rfl rfl rfl rfl rfl rfl ?_ | refine r_store hT rfl rfl rfl rfl rfl rfl rfl rfl rfl rfl ?_) | refine gi_seq ?_ | refine gi_plain ?_ | refine gi_exit rfl ?_))
        refine gi_freeze 1 (L' := U.map Ot.row) rfl rfl ?_
        refine gi_retX hT Try.func36 rfl [] [] rfl rfl rfl rfl rfl rfl rfl rfl ?_
        exact ⟨⟨n, o, U, hn, hA, by rw [← hup]; exact hEn, by rw [← hup]⟩, rfl, rfl⟩
end Go.Proofs.Ytmocggibcniggaa.Kt
namespace Go.Proofs.Ytmocggibcniggaa.Kt
open Go Kw Go.Proofs
attribute [local irreducible] Kw.GI Kw.GR Kw.FnR Kw.FnX Kw.FnI
set_option maxHeartbeats 16000000
set_option maxRecDepth 100000
theorem few_nil4 : Few [] := ⟨Nat.zero_le _, fun x h => (nomatch h), fun x h => (nomatch h)⟩
theorem Num_ok (n : Int) : FnR Try.prog 39 [I n] (RI n) := by
  refine fnR_intro (T := TT) (n := 4) Try.func39 rfl rfl rfl (fun w Z => ?_)
  (repeat (first | refine r_end ?_ | (refine r_op ?_; refine r_pure hT rfl rfl rfl rfl rfl rfl ?_) | refine gi_seq ?_ | refine gi_plain ?_))
  refine gi_retW hT Try.func39 rfl rfl [] rfl rfl rfl rfl ?_
  exact ⟨rfl, rfl⟩
theorem stLL_Ot : ∀ (l : List Ot), stLL (l.map Ot.row) = true
  | [] => rfl
  | c :: l => by
    show (stL (Ot.row c) && stLL (l.map Ot.row)) = true
    rw [stLL_Ot l]; rfl
theorem entR_st {m : Mp} {ms : List Vt} {ps : List Pt} {g : Int} {s : Src} {t : List Nd} : ∀ (a : Option Nat) (r : AV), EntR m ms ps g s t a r → ∃ p b g' u l n, r = .tup [avEt p b g' u l, I n]
  | none, _, h => ⟨_, _, _, _, _, _, h⟩
  | some _, _, ⟨_, _, _, _, _, _, h⟩ => ⟨_, _, _, _, _, _, h⟩
theorem pEnt {m : Mp} {ms : List Vt} {self : Int} {ps : List Pt} {src g : Int} : ∀ r H1 S1, REnt m ms self ps src g r H1 S1 → stA r = true ∧ StH H1 ∧ StS S1 := by
  rintro r H S ⟨hr, rfl, rfl⟩
  obtain ⟨p, b, g', u, l, n, rfl⟩ := entR_st _ _ hr
  refine ⟨?_, StH.nil, stS_nil⟩
  show ((true && (true && (true && (true && (stLL (l.map Ot.row) && true))))) && (true && true)) = true
  rw [stLL_Ot]
  rfl
theorem C_mapN {E : Env} {w : World} {u : Value} (h1 : C E w (.agg [nilA, nilA, nilA, nilA, nilA]) u) : C E w (avMf (mapL [])) u := by
  unfold C at h1 ⊢
  obtain ⟨vs, rfl, h3, h4⟩ := h1
  refine ⟨vs, rfl, ?_, h4⟩
  have a1 := CL_setx (x := nilA) (y := .r (.fs 2 [])) (j := 0) (fun u hu => C_nil_fs hu) rfl h3
  have a2 := CL_setx (x := nilA) (y := .r (.fs 6 [])) (j := 1) (fun u hu => C_nil_fs hu) rfl a1
  have a3 := CL_setx (x := nilA) (y := .r (.fs 4 [])) (j := 2) (fun u hu => C_nil_fs hu) rfl a2
  have a4 := CL_setx (x := nilA) (y := .r (.fs 4 [])) (j := 3) (fun u hu => C_nil_fs hu) rfl a3
  exact CL_setx (x := nilA) (y := .r (.fs 1 [])) (j := 4) (fun u hu => C_nil_fs hu) rfl a4
theorem Entry_no (l : List Ls) (hf : Few l) (ms : List Vt) (hms : ms.length < 1000000) (self src g : Int) : FnX Try.prog 36 [avMf (mapL l), rsV ms, I self, nilA, I src, I g] [] [] (REnt (mapL l) ms self [] src g) :=
  fnX_args (Entry_ok l hf ms hms self [] (by decide) (fun p h => (nomatch h)) src g) (fun _ _ _ h => CL_setx (x := nilA) (y := fsPt []) (j := 3) (fun u hu => C_nil_fs hu) rfl h)
theorem Entry_nn (l : List Ls) (hf : Few l) (self src g : Int) : FnX Try.prog 36 [avMf (mapL l), nilA, I self, nilA, I src, I g] [] [] (REnt (mapL l) [] self [] src g) :=
  fnX_args (Entry_no l hf [] (by decide) self src g) (fun _ _ _ h => CL_setx (x := nilA) (y := rsV []) (j := 1) (fun u hu => C_nil_rs hu) rfl h)
theorem Entry_nil (self src g : Int) : FnX Try.prog 36 [.agg [nilA, nilA, nilA, nilA, nilA], nilA, I self, nilA, I src, I g] [] [] (REnt (mapL []) [] self [] src g) :=
  fnX_args (Entry_nn [] few_nil4 self src g) (fun _ _ _ h => CL_setx (x := .agg [nilA, nilA, nilA, nilA, nilA]) (y := avMf (mapL [])) (j := 0) (fun u hu => C_mapN hu) rfl h)
theorem ent0 : entP (srcF 51461 (mapL l0)) (castT (mapL l0) (srcF 51461 (mapL l0))) 1 = some 0 := by kernel_rfl
theorem entN : entP (srcF 5 (mapL [])) (castT (mapL []) (srcF 5 (mapL []))) 1 = none := by kernel_rfl
theorem awake24_ok : FnR Try.prog 40 [] (RB true) := by
  refine fnR_intro (T := TT) (n := 41) Try.func40 rfl rfl rfl (fun w Z => ?_)
  (repeat (first | refine r_end ?_ | (refine r_op ?_; refine r_pure hT rfl rfl rfl rfl rfl rfl ?_) | refine gi_seq ?_ | refine gi_plain ?_))
  refine r_callX [] [] (Entry_nil 1 5 7) rfl rfl rfl rfl rfl rfl Try.func36 rfl rfl rfl rfl rfl rfl rfl pEnt ?_
  rintro r H1 S1 ⟨hr, rfl, rfl⟩
  rw [entN] at hr
  obtain rfl := hr
  (repeat (first | refine r_end ?_ | (refine r_op ?_; first | refine r_pure hT rfl rfl rfl rfl rfl rfl ?_ | refine r_store hT rfl rfl rfl rfl rfl rfl rfl rfl rfl rfl ?_ | refine r_alloc hT rfl rfl rfl rfl rfl rfl rfl rfl rfl ?_) | refine gi_seq ?_ | refine gi_plain ?_))
  refine r_callX [] [] (Graph0n) rfl rfl rfl rfl rfl rfl Try.func28 rfl rfl rfl rfl rfl rfl rfl p0G ?_
  rintro r H1 S1 ⟨rfl, rfl, rfl⟩
  refine r_freeze 0 rfl (frz_seO l0) ?_
  skip
  refine r_call (MapF l0 few0) rfl rfl rfl rfl rfl rfl rfl rfl Try.func15 rfl rfl rfl pMapP ?_
  rintro r S1 ⟨rfl, rfl⟩
  (repeat (first | refine r_end ?_ | (refine r_op ?_; first | refine r_store hT rfl rfl rfl rfl rfl rfl rfl rfl rfl rfl ?_ | refine r_alloc hT rfl rfl rfl rfl rfl rfl rfl rfl rfl ?_) | refine gi_seq ?_))
  refine gi_freeze 1 (L' := (mapL l0).vs.map Vt.row) rfl rfl ?_
  refine gi_freeze 2 (L' := (mapL l0).es.map Eg.row) rfl rfl ?_
  refine gi_freeze 3 (L' := (mapL l0).sb.map Sb.row) rfl rfl ?_
  refine gi_freeze 4 (L' := (mapL l0).sn.map Sn.row) rfl rfl ?_
  refine gi_freeze 5 (L' := (mapL l0).wl.map nRow) rfl rfl ?_
  refine gi_weak (F' := [(3, .box 1 0), (2, I 7)]) (H' := [hEt 0 0 0 0 (fsOt []), hMf (mapL l0)]) (S' := []) ⟨rfl, rfl, trivial⟩ ⟨rfl, rfl, trivial⟩ trivial rfl ?_
  (repeat (first | (refine r_op ?_; refine r_load hT rfl rfl rfl rfl rfl rfl rfl rfl rfl ?_) | refine gi_plain ?_))
  refine r_callX [] [] (Entry_nn l0 few0 1 51461 7) rfl rfl rfl rfl rfl rfl Try.func36 rfl rfl rfl rfl rfl rfl rfl pEnt ?_
  rintro r H1 S1 ⟨hr, rfl, rfl⟩
  rw [ent0] at hr
  obtain ⟨n, o, outs, _, _, _, hr⟩ := hr
  rw [src0] at hr
  obtain rfl := hr
  (repeat (first | refine r_end ?_ | (refine r_op ?_; first | refine r_pure hT rfl rfl rfl rfl rfl rfl ?_ | refine r_store hT rfl rfl rfl rfl rfl rfl rfl rfl rfl rfl ?_ | refine r_alloc hT rfl rfl rfl rfl rfl rfl rfl rfl rfl ?_) | refine gi_seq ?_ | refine gi_plain ?_))
  refine r_call (Num_ok 7) rfl rfl rfl rfl rfl rfl rfl rfl Try.func39 rfl rfl rfl pI ?_
  rintro r S1 ⟨rfl, rfl⟩
  (repeat ((refine r_op ?_; refine r_pure hT rfl rfl rfl rfl rfl rfl ?_)))
  refine r_known (d := 21) (b := true) rfl (by rw [eqB_eq]; rfl) ?_
  (repeat ((refine r_op ?_; refine r_pure hT rfl rfl rfl rfl rfl rfl ?_)))
  refine r_call (Num_ok 0) rfl rfl rfl rfl rfl rfl rfl rfl Try.func39 rfl rfl rfl pI ?_
  rintro r S1 ⟨rfl, rfl⟩
  (repeat ((refine r_op ?_; refine r_pure hT rfl rfl rfl rfl rfl rfl ?_)))
  refine r_known (d := 26) (b := true) rfl (by rw [eqB_eq]; rfl) ?_
  (repeat ((refine r_op ?_; first | refine r_pure hT rfl rfl rfl rfl rfl rfl ?_ | refine r_load hT rfl rfl rfl rfl rfl rfl rfl rfl rfl ?_)))
  refine r_known (d := 31) (b := true) rfl (by rw [eqB_eq]; rfl) ?_
  (repeat ((refine r_op ?_; first | refine r_pure hT rfl rfl rfl rfl rfl rfl ?_ | refine r_load hT rfl rfl rfl rfl rfl rfl rfl rfl rfl ?_)))
  refine r_known (d := 36) (b := true) rfl (by rw [eqB_eq]; rfl) ?_
  (repeat (first | refine r_end ?_ | (refine r_op ?_; first | refine r_pure hT rfl rfl rfl rfl rfl rfl ?_ | refine r_load hT rfl rfl rfl rfl rfl rfl rfl rfl rfl ?_)))
  refine gi_retW hT Try.func40 rfl rfl [] rfl rfl rfl rfl ?_
  exact ⟨by rw [eqB_eq]; rfl, rfl⟩
end Go.Proofs.Ytmocggibcniggaa.Kt
namespace Go.Proofs.Ytmocggibcniggaa.Kt
open Go Kw Go.Proofs
set_option maxHeartbeats 4000000
set_option maxRecDepth 100000
/-! ### the row of CutNeeds -/
def lnkN (k j : Nat) : List Lk := (if 0 < j then [⟨1, (j : Int), 1000 * ((j : Int) + 1) + 1, 1⟩] else []) ++ (if j + 1 < k then [⟨1, (j : Int) + 2, 1000 * ((j : Int) + 1) + 2, 1⟩] else []) ++ [⟨3, 256 * (201 + (j : Int)), 4294967040, 1⟩]
def rtrN (k j : Nat) : Ls := ⟨0, 1, (j : Int) + 1, (j : Int) + 1, 0, 0, 0, 0, lnkN k j, 0, [], []⟩
def rowN (k j : Nat) : List Ls := (List.range j).map (rtrN k)
theorem rowN_snoc (k j : Nat) : rowN k (j + 1) = rowN k j ++ [rtrN k j] := by
  unfold rowN
  rw [List.range_succ, List.map_append]
  rfl
theorem rowN_len (k j : Nat) : (rowN k j).length = j := by unfold rowN; rw [List.length_map, List.length_range]
theorem rowN_at {k n j : Nat} {x : Ls} (h : (rowN k n)[j]? = some x) : x = rtrN k j ∧ j < n := by
  have hl := (List.getElem?_eq_some_iff.1 h).1
  rw [rowN_len] at hl
  unfold rowN at h
  rw [List.getElem?_map, List.getElem?_range hl] at h
  exact ⟨(Option.some.inj h).symm, hl⟩
abbrev StN (j : Nat) (q : Lk) : Prop := q = ⟨3, 256 * (201 + (j : Int)), 4294967040, 1⟩
theorem lnkN_mem {k j : Nat} {q : Lk} : q ∈ lnkN k j ↔ (0 < j ∧ q = ⟨1, (j : Int), 1000 * ((j : Int) + 1) + 1, 1⟩) ∨ (j + 1 < k ∧ q = ⟨1, (j : Int) + 2, 1000 * ((j : Int) + 1) + 2, 1⟩) ∨ StN j q := by
  unfold lnkN
  rw [List.mem_append, List.mem_append, List.mem_singleton, or_assoc]
  refine or_congr ?_ (or_congr ?_ Iff.rfl)
  · split
    · rename_i h; rw [List.mem_singleton]; exact ⟨fun e => ⟨h, e⟩, fun e => e.2⟩
    · rename_i h; exact ⟨fun e => (nomatch e), fun e => absurd e.1 h⟩
  · split
    · rename_i h; rw [List.mem_singleton]; exact ⟨fun e => ⟨h, e⟩, fun e => e.2⟩
    · rename_i h; exact ⟨fun e => (nomatch e), fun e => absurd e.1 h⟩
theorem lnkN_len (k j : Nat) : (lnkN k j).length ≤ 3 := by
  unfold lnkN
  rw [List.length_append, List.length_append, List.length_singleton]
  split <;> split <;> simp
theorem rowN_row (k : Nat) : RowL k (fun _ => 1) (fun j => 1000 * ((j : Int) + 1) + 2) (fun j => 1000 * ((j : Int) + 1) + 1) StN (rowN k k) := by
  refine ⟨rowN_len k k, fun j x hx => ?_⟩
  obtain ⟨rfl, hj⟩ := rowN_at hx
  have hl := lnkN_len k j
  refine ⟨rfl, by show (lnkN k j).length ≤ 100; omega, fun q hq => ?_, fun h1 => ?_, fun h1 => ?_, fun q hq => ?_⟩
  · have hq : q ∈ lnkN k j := hq
    rcases lnkN_mem.1 hq with ⟨a, rfl⟩ | ⟨a, rfl⟩ | rfl
    · exact .inr (.inl ⟨rfl, a, rfl, rfl, rfl⟩)
    · exact .inl ⟨rfl, a, rfl, rfl, rfl⟩
    · exact .inr (.inr ⟨rfl, rfl⟩)
  · exact ⟨_, lnkN_mem.2 (.inr (.inl ⟨h1, rfl⟩)), rfl, rfl⟩
  · exact ⟨_, lnkN_mem.2 (.inl ⟨h1, rfl⟩), rfl, rfl⟩
  · have hq : StN j q := hq
    subst hq
    exact ⟨lnkN_mem.2 (.inr (.inr rfl)), rfl⟩
section
variable {k : Nat} {gs : List Ls} {cs up dn : Nat → Int}
theorem rowL_sn {St : Nat → Lk → Prop} (h : RowL k cs up dn St gs) : (mapL gs).sn = [] := by
  show (vertsL gs).flatMap (snF gs) = []
  rw [List.flatMap_eq_nil_iff]
  intro v hv
  obtain ⟨j, hj, rfl⟩ := h.verts.1 hv
  unfold snF
  rw [show eqB (⟨1, (j : Int) + 1⟩ : Vt).k 2 = false from by rw [eqB_eq]; rfl]
theorem stF_N (i : Int) {j : Nat} (hj : j < 1000) : stF i ⟨3, 256 * (201 + (j : Int)), 4294967040, 1⟩ = [⟨i, 256 * (201 + (j : Int)), 24, 1⟩] := by
  unfold stF
  show (match eqB (3 : Int) 3 && leB 0 (bitsF 4294967040) with | true => [(⟨i, netF (256 * (201 + (j : Int))) (bitsF 4294967040), bitsF 4294967040, 1⟩ : Sb)] | false => []) = _
  rw [bits24, show (eqB (3 : Int) 3 && leB 0 24) = true from by rw [eqB_eq, leB_eq]; rfl, (in24 (i := 256 * (201 + (j : Int))) (by omega) (by omega) (by omega)).1]
theorem rowL_sb (h : RowL k cs up dn StN gs) (hk : k ≤ 1000) : (∀ s ∈ (mapL gs).sb, ∃ j : Nat, j < k ∧ s = ⟨(j : Int) + 1, 256 * (201 + (j : Int)), 24, 1⟩) ∧ ∀ j : Nat, j < k → (⟨(j : Int) + 1, 256 * (201 + (j : Int)), 24, 1⟩ : Sb) ∈ (mapL gs).sb := by
  refine ⟨fun s hs => ?_, fun j hj => ?_⟩
  · have hs : s ∈ (vertsL gs).flatMap (sbF gs) := hs
    obtain ⟨v, hv, hs⟩ := List.mem_flatMap.1 hs
    obtain ⟨j, hj, rfl⟩ := h.verts.1 hv
    obtain ⟨y, hy, hfy⟩ := h.find_at hj
    have e3 := (h.el j y hy).2.2.1
    unfold sbF at hs
    split at hs
    · cases hs
    · rw [hfy] at hs
      obtain ⟨q, hq, hs⟩ := List.mem_flatMap.1 hs
      have hq : q ∈ y.lk := hq
      rcases e3 q hq with ⟨b, _⟩ | ⟨b, _⟩ | ⟨_, b⟩
      · unfold stF at hs
        rw [b, show (eqB (1 : Int) 3 && leB 0 (bitsF q.d)) = false from by rw [eqB_eq]; rfl] at hs
        cases hs
      · unfold stF at hs
        rw [b, show (eqB (1 : Int) 3 && leB 0 (bitsF q.d)) = false from by rw [eqB_eq]; rfl] at hs
        cases hs
      · have b : q = ⟨3, 256 * (201 + (j : Int)), 4294967040, 1⟩ := b
        subst b
        rw [stF_N _ (by omega), List.mem_singleton] at hs
        exact ⟨j, hj, hs⟩
  · refine List.mem_flatMap.2 ⟨⟨1, (j : Int) + 1⟩, h.verts.2 ⟨j, hj, rfl⟩, ?_⟩
    obtain ⟨y, hy, hfy⟩ := h.find_at hj
    have hq := ((h.el j y hy).2.2.2.2.2 _ rfl).1
    unfold sbF
    rw [show eqB (⟨1, (j : Int) + 1⟩ : Vt).k 2 = false from by rw [eqB_eq]; rfl]
    show _ ∈ ((findL gs ⟨1, (j : Int) + 1⟩).getD zLs).lk.flatMap (stF ((j : Int) + 1))
    rw [hfy]
    refine List.mem_flatMap.2 ⟨_, hq, ?_⟩
    rw [stF_N _ (by omega)]
    exact List.mem_singleton.2 rfl
theorem rowL_src (h : RowL k cs up dn StN gs) (hk : k ≤ 1000) (hk0 : 0 < k) : srcF 51465 (mapL gs) = ⟨⟨1, 1⟩, 51456, 24, true⟩ := by
  obtain ⟨h1, h2⟩ := rowL_sb h hk
  have e0 : pnetF 51465 24 = 51456 := (pnet24 (i := 51456) (by omega) (by omega) (by omega)).2
  refine src_one rfl (fun x hx => by rw [rowL_sn h] at hx; cases hx) (fun x hx hi => ?_) (.inr ⟨_, h2 0 hk0, ?_⟩)
  · obtain ⟨j, hj, rfl⟩ := h1 x hx
    have := in_net hi
    have e1 : pnetF (256 * (201 + (j : Int))) 24 = 256 * (201 + (j : Int)) := (pnet24 (by omega) (by omega) (by omega)).1
    rw [e0] at this
    simp only at this
    rw [e1] at this
    have hj0 : j = 0 := by omega
    subst hj0
    rfl
  · exact (in24 (i := 51456) (by omega) (by omega) (by omega)).2
theorem rowL_wl {St : Nat → Lk → Prop} (h : RowL k cs up dn St gs) : (mapL gs).wl = [] := wl_nil (fun x hx => by
  obtain ⟨j, hj⟩ := List.mem_iff_getElem?.1 hx
  rw [(h.el j x hj).1])
/-- What the row's routers answer. -/
theorem rowL_ent (h : RowL k cs up dn StN gs) (hc : ∀ j, j + 1 < k → 1 ≤ cs j ∧ cs j ≤ 256) (hk : k ≤ 1000) {j : Nat} (hj : j + 1 < k) (hu : up j ≠ 0) {g : Int} {r : AV} {H : Hp} {S : Sp} (hE : REnt (mapL gs) [⟨1, (k : Int)⟩] ((j : Int) + 1) [] 51465 g r H S) : ∃ u, r = .tup [avEt 51456 24 g u [⟨up j, (k : Int) - j⟩], I 0] ∧ H = [] ∧ S = [] := by
  obtain ⟨hr, rfl, rfl⟩ := hE
  have hf := h.few hk
  rw [rowL_src h hk (by omega)] at hr
  have hv : (⟨1, ((0 : Nat) : Int) + 1⟩ : Vt) ∈ (mapL gs).vs := h.verts.2 ⟨0, by omega, rfl⟩
  have hT := tr_of hf hv
  have hct : castT (mapL gs) ⟨⟨1, 1⟩, 51456, 24, true⟩ = refTree (mapL gs) ⟨1, ((0 : Nat) : Int) + 1⟩ := if_pos rfl
  rw [hct] at hr
  generalize refTree (mapL gs) ⟨1, ((0 : Nat) : Int) + 1⟩ = t at hr hT
  obtain ⟨a, x, hx, hxv, _⟩ := h.at_ hc hk (by omega) hT j (by omega)
  have hp : entP ⟨⟨1, 1⟩, 51456, 24, true⟩ t ((j : Int) + 1) = some a := by
    show placeL t ⟨1, (j : Int) + 1⟩ = some a
    rw [← hxv]
    exact hT.gr.place hx
  rw [hp] at hr
  obtain ⟨n, o, outs, h1, h2, h3, h4⟩ := hr
  rw [hx] at h1
  cases h1
  rw [rowL_wl h] at h2
  have := h.outs hc hk (by omega) hT h2 hj hx hxv hu h3
  subst this
  exact ⟨_, h4, rfl, rfl⟩
end
end Go.Proofs.Ytmocggibcniggaa.Kt
namespace Go.Proofs.Ytmocggibcniggaa.Kt
open Go Kw Go.Proofs
attribute [local irreducible] Kw.GI Kw.GR Kw.FnR Kw.FnX Kw.FnI
set_option maxHeartbeats 16000000
set_option maxRecDepth 100000
abbrev eLz (l : List Ls) : Option SE := some ⟨51, 12, l.map Ls.row, false⟩
abbrev seLk (l : List Lk) : SE := ⟨54, 4, l.map Lk.row, false⟩
abbrev hLz (x : Ls) (a : AV) : Option (TypeId × List AV) := some (51, [I x.age, I x.kind, I x.id, I x.adv, I 0, I 0, I 0, I 0, a, I 0, .r (.fs 1 []), .r (.fs 2 [])])
theorem y_flat_Ot : flatK Try.prog 90 = some [some .i64, some .i64] := by kernel_rfl
theorem CutNeeds_ok (n : Int) (hn : 0 ≤ n ∧ n ≤ 255) : FnR Try.prog 12 [u8 n] (RB true) := by
  obtain ⟨k, hk⟩ : ∃ k : Nat, (k : Int) = 2 + n % 10 := ⟨(2 + n % 10).toNat, by omega⟩
  have hk12 : 2 ≤ k ∧ k ≤ 11 := by omega
  refine fnR_intro (T := TT) (n := 105) Try.func12 rfl rfl rfl (fun w Z => ?_)
  (repeat (first | refine r_end ?_ | (refine r_op ?_; refine r_pure hT rfl rfl rfl rfl rfl rfl ?_) | refine gi_seq ?_ | refine gi_plain_ne 2 rfl ?_))
  refine gi_turn (d := 3) (y := I (k : Int)) rfl (by rw [wr_i64 (n := n) (by omega) (by omega), rm_pos hn.1, wr_i64 (by omega) (by omega), hk]) ?_
  (repeat (first | refine r_end ?_ | (refine r_op ?_; refine r_pure hT rfl rfl rfl rfl rfl rfl ?_) | refine gi_seq ?_ | refine gi_plain ?_ | refine gi_block ?_))
  refine gi_adopt (e := 51) (sz := 12) 4 rfl ?_
  refine gi_loop (σ := Nat) (fun j => [(5, I ((j : Int) + 1)), (4, .sl 0), (3, I (k : Int))]) (fun _ => []) (fun j => [eLz (rowN k j)]) (fun j => j ≤ k) (fun j => k - j) 0 (Nat.zero_le _) ⟨rfl, rfl, rfl, trivial⟩ trivial ⟨rfl, trivial⟩ (fun _ => rfl) (fun j hj next => ?_)
  have hj : j ≤ k := hj
  (repeat (first | refine r_end ?_ | (refine r_op ?_; refine r_pure hT rfl rfl rfl rfl rfl rfl ?_) | refine gi_seq ?_ | refine gi_plain ?_))
  refine gi_le rfl (fun h3 => ?_) (fun h3 => ?_)
  · have hjk : j < k := by omega
    obtain ⟨l0, hl0⟩ : ∃ l0, l0 = rowN k j := ⟨_, rfl⟩
    have hll : l0.length ≤ 12 := by rw [hl0, rowN_len]; omega
    have hsn := rowN_snoc k j
    rw [← hl0] at hsn
    rw [← hl0]
    (repeat (first | refine r_end ?_ | (refine r_op ?_; first | refine r_pure hT rfl rfl rfl rfl rfl rfl ?_ | refine r_store hT rfl rfl rfl rfl rfl rfl rfl rfl rfl rfl ?_ | refine r_alloc hT rfl rfl rfl rfl rfl rfl rfl rfl rfl ?_) | refine gi_seq ?_ | refine gi_plain_ne 7 rfl ?_ | refine gi_skip ?_ | refine gi_block ?_))
    refine gi_adoptH (e := 54) (sz := 4) 0 8 rfl rfl ?_
    refine gi_nilH 0 10 1 rfl rfl ?_
    refine gi_nilH 0 11 2 rfl rfl ?_
    refine gi_weak (F' := [(6, .box 0 0), (5, I ((j : Int) + 1)), (4, .sl 0), (3, I (k : Int))]) (H' := [hLz (rtrN k j) (.sl 1)]) (S' := [eLz l0, some (seLk [])]) ⟨rfl, rfl, rfl, rfl, trivial⟩ ⟨rfl, trivial⟩ ⟨rfl, rfl, trivial⟩ rfl ?_
    apply gi_cut (σ := Unit) (fun _ => [(6, .box 0 0), (5, I ((j : Int) + 1)), (4, .sl 0), (3, I (k : Int))]) (fun _ => [hLz (rtrN k j) (.sl 1)]) (fun _ => [eLz l0, some (seLk (if 0 < j then [⟨1, (j : Int), 1000 * ((j : Int) + 1) + 1, 1⟩] else []))]) (fun _ => True) (fun _ => rfl)
    case first =>
      intro fin
      (repeat (first | refine r_end ?_ | (refine r_op ?_; refine r_pure hT rfl rfl rfl rfl rfl rfl ?_) | refine gi_plain ?_))
      refine gi_lt rfl (fun c1 => ?_) (fun c1 => ?_)
      · rw [if_pos (by omega)] at fin
        (repeat (first | (refine r_op ?_; first | refine r_pure hT rfl rfl rfl rfl rfl rfl ?_ | refine r_load hT rfl rfl rfl rfl rfl rfl rfl rfl rfl ?_ | refine r_lit hT rfl rfl rfl rfl rfl rfl rfl rfl rfl rfl rfl rfl rfl ?_) | refine gi_plain ?_))
        refine r_append hT rfl rfl rfl rfl rfl rfl rfl rfl rfl rfl rfl rfl rfl rfl rfl rfl rfl (by simp only [List.length_cons, List.length_nil, List.length_map, maxLen]; exact ⟨by omega, by decide⟩) ?_
        (repeat (first | refine r_end ?_ | (refine r_op ?_; first | refine r_pure hT rfl rfl rfl rfl rfl rfl ?_ | refine r_store hT rfl rfl rfl rfl rfl rfl rfl rfl rfl rfl ?_) | refine gi_seq ?_))
        refine fin () _ _ _ trivial ⟨rfl, rfl, rfl, rfl, trivial⟩ ⟨rfl, trivial⟩ ⟨rfl, ?_, trivial⟩
        rw [wr_i64 (n := (j : Int) + 1 - 1) (by omega) (by omega), wr_i64 (n := 1000 * ((j : Int) + 1)) (by omega) (by omega), wr_i64 (by omega) (by omega), show (j : Int) + 1 - 1 = j by omega]
        rfl
      · rw [if_neg (by omega)] at fin
        (repeat (first | refine gi_seq ?_ | refine gi_skip ?_))
        refine fin () _ _ _ trivial ⟨rfl, rfl, rfl, rfl, trivial⟩ ⟨rfl, trivial⟩ ⟨rfl, rfl, trivial⟩
    case after =>
      intro _ _
      obtain ⟨b1, hb1⟩ : ∃ b1 : List Lk, b1 = if 0 < j then [⟨1, (j : Int), 1000 * ((j : Int) + 1) + 1, 1⟩] else [] := ⟨_, rfl⟩
      have hbl1 : b1.length ≤ 1 := by rw [hb1]; split <;> simp
      rw [← hb1]
      apply gi_cut (σ := Unit) (fun _ => [(6, .box 0 0), (5, I ((j : Int) + 1)), (4, .sl 0), (3, I (k : Int))]) (fun _ => [hLz (rtrN k j) (.sl 1)]) (fun _ => [eLz l0, some (seLk (b1 ++ if j + 1 < k then [⟨1, (j : Int) + 2, 1000 * ((j : Int) + 1) + 2, 1⟩] else []))]) (fun _ => True) (fun _ => rfl)
      case first =>
        intro fin
        (repeat (first | refine r_end ?_ | (refine r_op ?_; refine r_pure hT rfl rfl rfl rfl rfl rfl ?_) | refine gi_plain ?_))
        refine gi_lt rfl (fun c1 => ?_) (fun c1 => ?_)
        · rw [if_pos (by omega)] at fin
          (repeat (first | (refine r_op ?_; first | refine r_pure hT rfl rfl rfl rfl rfl rfl ?_ | refine r_load hT rfl rfl rfl rfl rfl rfl rfl rfl rfl ?_ | refine r_lit hT rfl rfl rfl rfl rfl rfl rfl rfl rfl rfl rfl rfl rfl ?_) | refine gi_plain ?_))
          refine r_append hT rfl rfl rfl rfl rfl rfl rfl rfl rfl rfl rfl rfl rfl rfl rfl rfl rfl (by simp only [List.length_cons, List.length_nil, List.length_map, maxLen]; exact ⟨by omega, by show _ * 32 ≤ _; omega⟩) ?_
          (repeat (first | refine r_end ?_ | (refine r_op ?_; first | refine r_pure hT rfl rfl rfl rfl rfl rfl ?_ | refine r_store hT rfl rfl rfl rfl rfl rfl rfl rfl rfl rfl ?_) | refine gi_seq ?_))
          refine fin () _ _ _ trivial ⟨rfl, rfl, rfl, rfl, trivial⟩ ⟨rfl, trivial⟩ ⟨rfl, ?_, trivial⟩
          rw [wr_i64 (n := (j : Int) + 1 + 1) (by omega) (by omega), wr_i64 (n := 1000 * ((j : Int) + 1)) (by omega) (by omega), wr_i64 (by omega) (by omega), show (j : Int) + 1 + 1 = j + 2 by omega, seLk, List.map_append]
          rfl
        · rw [if_neg (by omega), List.append_nil] at fin
          (repeat (first | refine gi_seq ?_ | refine gi_skip ?_))
          refine fin () _ _ _ trivial ⟨rfl, rfl, rfl, rfl, trivial⟩ ⟨rfl, trivial⟩ ⟨rfl, rfl, trivial⟩
      case after =>
        intro _ _
        obtain ⟨b2, hb2⟩ : ∃ b2 : List Lk, b2 = b1 ++ if j + 1 < k then [⟨1, (j : Int) + 2, 1000 * ((j : Int) + 1) + 2, 1⟩] else [] := ⟨_, rfl⟩
        have hbl2 : b2.length ≤ 2 := by
          rw [hb2, List.length_append]
          have : (if j + 1 < k then [(⟨1, (j : Int) + 2, 1000 * ((j : Int) + 1) + 2, 1⟩ : Lk)] else []).length ≤ 1 := by split <;> simp
          omega
        have hlk : lnkN k j = b2 ++ [⟨3, 256 * (201 + (j : Int)), 4294967040, 1⟩] := by rw [hb2, hb1]; rfl
        rw [← hb2]
        skip
        (repeat (first | (refine r_op ?_; first | refine r_pure hT rfl rfl rfl rfl rfl rfl ?_ | refine r_load hT rfl rfl rfl rfl rfl rfl rfl rfl rfl ?_) | refine gi_plain ?_))
        refine r_shl (n := 256 * (201 + (j : Int))) rfl rfl rfl rfl rfl rfl rfl rfl (by decide) (by rw [show (wr .i64 (200 + ((j : Int) + 1))) = 201 + (j : Int) from by rw [wr_i64 (by omega) (by omega)]; omega]; show wr .i64 ((201 + (j : Int)) * 256) = _; rw [wr_i64 (by omega) (by omega)]; omega) ?_
        (repeat ((refine r_op ?_; first | refine r_pure hT rfl rfl rfl rfl rfl rfl ?_ | refine r_lit hT rfl rfl rfl rfl rfl rfl rfl rfl rfl rfl rfl rfl rfl ?_)))
        refine r_append hT rfl rfl rfl rfl rfl rfl rfl rfl rfl rfl rfl rfl rfl rfl rfl rfl rfl (by simp only [List.length_cons, List.length_nil, List.length_map, maxLen]; exact ⟨by omega, by show _ * 32 ≤ _; omega⟩) ?_
        (repeat (first | refine r_end ?_ | (refine r_op ?_; first | refine r_pure hT rfl rfl rfl rfl rfl rfl ?_ | refine r_store hT rfl rfl rfl rfl rfl rfl rfl rfl rfl rfl ?_)))
        refine gi_freeze 1 (L' := b2.map Lk.row ++ [(⟨3, 256 * (201 + (j : Int)), 4294967040, 1⟩ : Lk).row]) rfl rfl ?_
        (repeat (first | (refine r_op ?_; first | refine r_pure hT rfl rfl rfl rfl rfl rfl ?_ | refine r_load hT rfl rfl rfl rfl rfl rfl rfl rfl rfl ?_ | refine r_lit hT rfl rfl rfl rfl rfl rfl rfl rfl rfl rfl rfl rfl rfl ?_) | refine gi_plain ?_))
        refine r_append hT rfl rfl rfl rfl rfl rfl rfl rfl rfl rfl rfl rfl rfl rfl rfl rfl rfl (by simp only [List.length_cons, List.length_nil, List.length_map, maxLen]; exact ⟨by omega, by show _ * 144 ≤ _; omega⟩) ?_
        (repeat (first | refine r_end ?_ | (refine r_op ?_; refine r_pure hT rfl rfl rfl rfl rfl rfl ?_) | refine gi_plain ?_ | refine gi_inBlock ?_))
        refine gi_pick [] [0] rfl rfl rfl rfl rfl ?_
        refine next (j + 1) _ _ _ hjk (by omega) ⟨?_, rfl, rfl, trivial⟩ trivial ⟨?_, trivial⟩
        · show some (I (wr .i64 ((j : Int) + 1 + 1))) = _
          rw [wr_i64 (by omega) (by omega)]
          simp
        · rw [hsn]
          have hrow : (rtrN k j).row = [.v (.int .i64 0), .v (.int .i64 1), .v (.int .i64 ((j : Int) + 1)), .v (.int .i64 ((j : Int) + 1)), .v (.int .i64 0), .v (.int .i64 0), .v (.int .i64 0), .v (.int .i64 0), .fs 4 (b2.map Lk.row ++ [(⟨3, 256 * (201 + (j : Int)), 4294967040, 1⟩ : Lk).row]), .v (.int .i64 0), .fs 1 [], .fs 2 []] := by
            show [_, _, _, _, _, _, _, _, RV.fs 4 ((lnkN k j).map Lk.row), _, _, _] = _
            rw [hlk, List.map_append]
            rfl
          rw [eLz, List.map_append, List.map_singleton, hrow]
          rfl
  have hjk : j = k := by omega
  subst hjk
  clear next
  have hR := rowN_row j
  obtain ⟨l, hl⟩ : ∃ l, l = rowN j j := ⟨_, rfl⟩
  rw [← hl] at hR
  rw [← hl]
  have hfew : Few l := hR.few (by omega)
  have hc : ∀ i, i + 1 < j → 1 ≤ (fun _ : Nat => (1 : Int)) i ∧ (fun _ : Nat => (1 : Int)) i ≤ 256 := fun _ _ => ⟨Int.le_refl _, by show (1 : Int) ≤ 256; decide⟩
  have hent := fun (i : Nat) (hi : i + 1 < j) (r : AV) (H : Hp) (S : Sp) => rowL_ent hR hc (by omega) hi (show (1000 * ((i : Int) + 1) + 2) ≠ 0 by omega) (g := 7) (r := r) (H := H) (S := S)
  clear hR hl
  (repeat (first | refine gi_seq ?_ | refine gi_exit rfl ?_))
  refine gi_freeze 0 (L' := l.map Ls.row) rfl rfl ?_
  refine gi_weak (F' := [(4, fsL l), (3, I (j : Int))]) (H' := []) (S' := []) ⟨rfl, rfl, trivial⟩ trivial trivial rfl ?_
  (repeat (first | (refine r_op ?_; refine r_pure hT rfl rfl rfl rfl rfl rfl ?_) | refine gi_plain ?_))
  refine r_call (MapF l hfew) rfl rfl rfl rfl rfl rfl rfl rfl Try.func15 rfl rfl rfl pMapP ?_
  rintro r S1 ⟨rfl, rfl⟩
  (repeat (first | refine r_end ?_ | (refine r_op ?_; first | refine r_store hT rfl rfl rfl rfl rfl rfl rfl rfl rfl rfl ?_ | refine r_alloc hT rfl rfl rfl rfl rfl rfl rfl rfl rfl ?_) | refine gi_seq ?_))
  refine gi_freeze 0 (L' := (mapL l).vs.map Vt.row) rfl rfl ?_
  refine gi_freeze 1 (L' := (mapL l).es.map Eg.row) rfl rfl ?_
  refine gi_freeze 2 (L' := (mapL l).sb.map Sb.row) rfl rfl ?_
  refine gi_freeze 3 (L' := (mapL l).sn.map Sn.row) rfl rfl ?_
  refine gi_freeze 4 (L' := (mapL l).wl.map nRow) rfl rfl ?_
  refine gi_weak (F' := [(7, .box 0 0), (3, I (j : Int))]) (H' := [hMf (mapL l)]) (S' := []) ⟨rfl, rfl, trivial⟩ ⟨rfl, trivial⟩ trivial rfl ?_
  (repeat (first | refine r_end ?_ | (refine r_op ?_; refine r_pure hT rfl rfl rfl rfl rfl rfl ?_) | refine gi_plain ?_ | refine gi_block ?_))
  refine gi_loop (σ := Nat) (fun i => [(8, I ((i : Int) + 1)), (7, .box 0 0), (3, I (j : Int))]) (fun _ => [hMf (mapL l)]) (fun _ => []) (fun i => i + 1 ≤ j) (fun i => j - i) 0 (by omega) ⟨rfl, rfl, rfl, trivial⟩ ⟨rfl, trivial⟩ trivial (fun _ => rfl) (fun i hi next => ?_)
  have hi : i + 1 ≤ j := hi
  (repeat (first | refine r_end ?_ | (refine r_op ?_; refine r_pure hT rfl rfl rfl rfl rfl rfl ?_) | refine gi_seq ?_ | refine gi_plain ?_))
  refine gi_lt rfl (fun h4 => ?_) (fun h4 => ?_)
  · have hij : i + 1 < j := by omega
    have hE := hent i hij
    (repeat (first | (refine r_op ?_; first | refine r_pure hT rfl rfl rfl rfl rfl rfl ?_ | refine r_load hT rfl rfl rfl rfl rfl rfl rfl rfl rfl ?_ | refine r_lit hT rfl rfl rfl rfl rfl rfl rfl rfl rfl rfl rfl rfl rfl ?_) | refine gi_seq ?_ | refine gi_plain ?_ | refine gi_skip ?_ | refine gi_block ?_))
    refine r_freeze 0 (L' := [(⟨1, (j : Int)⟩ : Vt).row]) rfl rfl ?_
    refine r_thaw 75 rfl ?_
    refine r_callX [] [] (Entry_no l hfew [⟨1, (j : Int)⟩] (by show 1 < 1000000; decide) ((i : Int) + 1) 51465 7) rfl rfl rfl rfl rfl rfl Try.func36 rfl rfl rfl rfl rfl rfl rfl pEnt ?_
    intro r H1 S1 hr
    obtain ⟨u, rfl, rfl, rfl⟩ := hE r H1 S1 hr
    (repeat (first | refine r_end ?_ | (refine r_op ?_; first | refine r_pure hT rfl rfl rfl rfl rfl rfl ?_ | refine r_store hT rfl rfl rfl rfl rfl rfl rfl rfl rfl rfl ?_ | refine r_alloc hT rfl rfl rfl rfl rfl rfl rfl rfl rfl ?_) | refine gi_seq ?_))
    refine gi_weak (F' := [(10, I 0), (9, .box 1 0), (8, I ((i : Int) + 1)), (7, .box 0 0), (3, I (j : Int))]) (H' := [hMf (mapL l), hEt 51456 24 7 u (fsOt [⟨1000 * ((i : Int) + 1) + 2, (j : Int) - i⟩])]) (S' := []) ⟨rfl, rfl, rfl, rfl, rfl, trivial⟩ ⟨rfl, rfl, trivial⟩ trivial rfl ?_
    (repeat (first | (refine r_op ?_; refine r_pure hT rfl rfl rfl rfl rfl rfl ?_) | refine gi_plain ?_))
    refine r_call (Num_ok 0) rfl rfl rfl rfl rfl rfl rfl rfl Try.func39 rfl rfl rfl pI ?_
    rintro r S1 ⟨rfl, rfl⟩
    (repeat ((refine r_op ?_; refine r_pure hT rfl rfl rfl rfl rfl rfl ?_)))
    refine r_known (d := 83) (b := false) rfl (by rw [notB_eq, eqB_eq]; rfl) ?_
    (repeat ((refine r_op ?_; first | refine r_pure hT rfl rfl rfl rfl rfl rfl ?_ | refine r_load hT rfl rfl rfl rfl rfl rfl rfl rfl rfl ?_)))
    refine r_known (d := 89) (b := false) rfl (by rw [notB_eq, eqB_eq]; rfl) ?_
    (repeat ((refine r_op ?_; first | refine r_pure hT rfl rfl rfl rfl rfl rfl ?_ | refine r_load hT rfl rfl rfl rfl rfl rfl rfl rfl rfl ?_)))
    refine r_thaw 91 rfl ?_
    refine r_idx (row := (⟨1000 * ((i : Int) + 1) + 2, (j : Int) - i⟩ : Ot).row) hT rfl rfl rfl rfl rfl rfl rfl rfl rfl rfl rfl rfl (by decide) (by rfl) ?_
    (repeat ((refine r_op ?_; first | refine r_pure hT rfl rfl rfl rfl rfl rfl ?_ | refine r_load hT rfl rfl rfl rfl rfl rfl rfl rfl rfl ?_)))
    refine r_neT _ rfl rfl rfl rfl rfl rfl rfl rfl rfl y_flat_Ot ?_
    (repeat (first | refine r_end ?_ | (refine r_op ?_; refine r_pure hT rfl rfl rfl rfl rfl rfl ?_)))
    refine gi_known (d := 103) (b := false) rfl (by
      rw [wr_i64 (n := 1000 * ((i : Int) + 1)) (by omega) (by omega), wr_i64 (n := 1000 * ((i : Int) + 1) + 2) (by omega) (by omega), wr_i64 (n := 1 + (j : Int)) (by omega) (by omega), wr_i64 (n := 1 + (j : Int) - ((i : Int) + 1)) (by omega) (by omega), show 1 + (j : Int) - ((i : Int) + 1) = (j : Int) - i by omega]
      show notB (eqB _ _ && (eqB _ _ && true)) = false
      rw [notB_eq, eqB_eq, eqB_eq]
      simp) ?_
    (repeat (first | refine r_end ?_ | (refine r_op ?_; refine r_pure hT rfl rfl rfl rfl rfl rfl ?_) | refine gi_plain ?_ | refine gi_skip ?_ | refine gi_inBlock ?_ | (refine gi_cnd ?_; first | refine gi_true rfl ?_ | refine gi_false rfl ?_)))
    refine next (i + 1) _ _ _ (by omega) (by omega) ⟨?_, rfl, rfl, trivial⟩ ⟨rfl, trivial⟩ trivial
    show some (I (wr .i64 ((i : Int) + 1 + 1))) = _
    rw [wr_i64 (by omega) (by omega)]
    simp
  · clear next
    (repeat (first | refine gi_seq ?_ | refine gi_plain ?_ | refine gi_exit rfl ?_))
    refine r_call (awake24_ok) rfl rfl rfl rfl rfl rfl rfl rfl Try.func40 rfl rfl rfl pB ?_
    rintro r S1 ⟨rfl, rfl⟩
    (repeat (first | refine r_end ?_ | (refine r_op ?_; refine r_pure hT rfl rfl rfl rfl rfl rfl ?_)))
    refine gi_retW hT Try.func12 rfl rfl [] rfl rfl rfl rfl ?_
    exact ⟨rfl, rfl⟩
end Go.Proofs.Ytmocggibcniggaa.Kt
