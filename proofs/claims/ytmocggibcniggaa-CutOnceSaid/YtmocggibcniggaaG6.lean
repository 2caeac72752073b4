/- Part of the proofs of this seat's statements: what the functions compute. No condition. -/
import Derived.Test.YtmocggibcniggaaG5
import Derived.Test.YtmocggibcniggaaG4
import Derived.Test.YtmocggibcniggaaG1
import Derived.Test.YtmocggibcniggaaK4
set_option linter.unusedSimpArgs false
set_option linter.unusedVariables false
namespace Go.Proofs.Ytmocggibcniggaa.Kt
open Go Kw Go.Proofs
set_option maxHeartbeats 4000000
set_option maxRecDepth 100000
/-! ### each network by one router: the law -/
theorem least_of : ∀ (l : List Ot) (A : Int), (∃ w ∈ l, w.a = A) → ∃ z ∈ l, z.a = A ∧ ∀ y ∈ l, y.a = A → z.n ≤ y.n
  | [], _, ⟨w, hw, _⟩ => nomatch hw
  | x :: l, A, ⟨w, hw, hwA⟩ => by
    by_cases hl : ∃ w ∈ l, w.a = A
    · obtain ⟨z, hz, hzA, hzm⟩ := least_of l A hl
      by_cases hx : x.a = A ∧ x.n < z.n
      · refine ⟨x, List.mem_cons_self .., hx.1, fun y hy hyA => ?_⟩
        rcases List.mem_cons.1 hy with rfl | hy
        · exact Int.le_refl _
        · have := hzm y hy hyA; omega
      · refine ⟨z, List.mem_cons_of_mem _ hz, hzA, fun y hy hyA => ?_⟩
        rcases List.mem_cons.1 hy with rfl | hy
        · exact Int.not_lt.1 (fun h => hx ⟨hyA, h⟩)
        · exact hzm y hy hyA
    · rcases List.mem_cons.1 hw with rfl | hw
      · refine ⟨w, List.mem_cons_self .., hwA, fun y hy hyA => ?_⟩
        rcases List.mem_cons.1 hy with rfl | hy
        · exact Int.le_refl _
        · exact absurd ⟨y, hy, hyA⟩ hl
      · exact absurd ⟨w, hw, hwA⟩ hl
theorem EntO.ex {O : List Ot} {up : Int} {outs : List Ot} (h : EntO O up outs) {w : Ot} (hw : w ∈ O) (hu : w.a ≠ up) : ∃ x ∈ outs, x.a = w.a := by
  obtain ⟨z, hz, hzA, hzm⟩ := least_of O w.a ⟨w, hw, rfl⟩
  exact ⟨z, (h.mem z).2 ⟨hz, by rw [hzA]; exact hu, fun y hy hyA => hzm y hy (by rw [hyA, hzA])⟩, hzA⟩
theorem out1_mem {a : Int} {m : Nd} {y : Int} {w : Ot} : w ∈ out1 a (m, y) ↔ m.p = a ∧ 0 ≤ y ∧ w = ⟨m.d, match eqB m.v.k 1 with | true => wr .i64 (y + 1) | false => y⟩ := by
  unfold out1
  by_cases hp : m.p = a
  · by_cases hy : y < 0
    · rw [show (notB (eqB m.p a) || ltB y 0) = true from by rw [ltB_eq, decide_eq_true hy, Bool.or_true]]
      exact ⟨fun h => (nomatch h), fun h => absurd h.2.1 (by omega)⟩
    · rw [show (notB (eqB m.p a) || ltB y 0) = false from by rw [notB_eq, eqB_eq, ltB_eq, hp, decide_eq_false hy]; simp]
      exact ⟨fun h => ⟨hp, by omega, List.mem_singleton.1 h⟩, fun h => List.mem_singleton.2 h.2.2⟩
  · rw [show (notB (eqB m.p a) || ltB y 0) = true from by rw [notB_eq, eqB_eq, show (m.p == a) = false from by simpa using hp]; rfl]
    exact ⟨fun h => (nomatch h), fun h => absurd h.1 hp⟩
theorem outs0_mem {t : List Nd} {a : Nat} {o : List Int} {ps : List Pt} {g : Int} {w : Ot} : w ∈ outs0 t a o ps g ↔ (∃ (i : Nat) (m : Nd) (y : Int), t[i]? = some m ∧ o[i]? = some y ∧ w ∈ out1 a (m, y)) ∨ ∃ p ∈ ps, w ∈ out2 g p := by
  unfold outs0
  rw [List.mem_append]
  refine or_congr ?_ List.mem_flatMap
  rw [List.mem_flatMap]
  constructor
  · rintro ⟨⟨m, y⟩, hz, hw⟩
    obtain ⟨i, h1, h2⟩ := mem_zip.1 hz
    exact ⟨i, m, y, h1, h2, hw⟩
  · rintro ⟨i, m, y, h1, h2, hw⟩
    exact ⟨(m, y), mem_zip.2 ⟨i, h1, h2⟩, hw⟩
/-- Where the source is. -/
structure SrcG (s : Src) : Prop where
  ok : s.ok = true
  b : s.b = 24
  v : (∃ R, s.v = ⟨1, R⟩ ∧ s.p = 256 * (200 + R)) ∨ (s.v = ⟨2, s.p⟩ ∧ s.p ≤ 27648)
/-- What is told of a router's list. -/
structure OtG (t : List Nd) (o : List Int) (r : Int) (hb : Bool) (sp : Int) (a : Nat) (outs : List Ot) : Prop where
  pw : outs.Pairwise (fun x y => x.a < y.a)
  kd : ∀ x ∈ outs, x.a = 256 * (200 + r) + 1 ∨ (1000 ≤ x.a ∧ x.a ≤ 2036) ∨ ∃ (i : Nat) (m : Nd) (y N : Int), t[i]? = some m ∧ m.p = a ∧ m.v = ⟨2, N⟩ ∧ o[i]? = some y ∧ 0 ≤ y ∧ x.a = N + r ∧ N % 256 = 0 ∧ 25856 ≤ N ∧ N ≤ 27648
  net : ∀ (i : Nat) (m : Nd) (N y : Int), t[i]? = some m → m.p = a → m.v = ⟨2, N⟩ → o[i]? = some y → 0 ≤ y → ∃ x ∈ outs, x.a = N + r
  st : (∃ x ∈ outs, x.a = 256 * (200 + r) + 1) ↔ (hb = true ∧ sp ≠ 256 * (200 + r))
def Otr (t : List Nd) (o : List Int) (r : Int) (hb : Bool) (sp : Int) (outs : List Ot) (e : Int) : Prop := (placeL t ⟨1, r⟩ = none ∧ outs = [] ∧ e = 7) ∨ ∃ a, placeL t ⟨1, r⟩ = some a ∧ e = 0 ∧ OtG t o r hb sp a outs
section
variable {n : Int} {P Q : Nat} {non : Bool} {l : List Ls}
theorem Mde.kid (h : Mde n P Q non l) {v : Vt} {t : List Nd} (hT : Tr l v t) {a i : Nat} {x m : Nd} {r : Int} (hx : t[a]? = some x) (hv : x.v = ⟨1, r⟩) (hm : t[i]? = some m) (hp : m.p = a) : a < i ∧ ((m.v.k = 1 ∧ 1000 ≤ m.d ∧ m.d ≤ 2036) ∨ ∃ N, m.v = ⟨2, N⟩ ∧ m.d = N + r ∧ N % 256 = 0 ∧ 25856 ≤ N ∧ N ≤ 27648) := by
  have hi : 0 < i := by
    rcases Nat.eq_zero_or_pos i with rfl | hi
    · have := hT.tre.root m hm; omega
    · exact hi
  obtain ⟨e, he, p, y, hpi, hy, hyv, het, hmp, _, hmd, _⟩ := hT.gr.edge hi hm
  have hpa : p = a := by omega
  subst hpa
  rw [hx] at hy
  cases hy
  refine ⟨hpi, ?_⟩
  cases h.ed3 he with
  | rr a' b' h1 h2 h3 h4 h5 => exact .inl ⟨by rw [← het, h2], by omega, by omega⟩
  | rn r' N h1 h2 h3 h4 h5 h6 =>
    rw [hv, h1] at hyv
    have hrr : r = r' := congrArg Vt.i hyv
    exact .inr ⟨N, by rw [← het, h2], by omega, h4, h5, h6⟩
  | nr N r' h1 h2 h3 h4 h5 h6 =>
    rw [hv, h1] at hyv
    cases hyv
theorem once_law (h : Mde n P Q non l) (hw : (mapL l).wl = []) {r : Int} (hr : 1 ≤ r ∧ r ≤ 6) {hb : Bool} {ps : List Pt} (hps : PsG r hb 7 ps) {s : Src} (hs : SrcG s) {t : List Nd} (hT : Tr l s.v t) {ms : List Vt} {o : List Int} (hR : Rch t [] ms o) {rr : AV} (hE : EntR (mapL l) ms ps 7 s t (entP s t r) rr) :
    ∃ pf bt g up outs e, rr = .tup [avEt pf bt g up outs, I e] ∧ Otr t o r hb s.p outs e := by
  have hp : entP s t r = placeL t ⟨1, r⟩ := by unfold entP; rw [hs.ok]
  rw [hp] at hE
  cases hpl : placeL t ⟨1, r⟩ with
  | none =>
    rw [hpl] at hE
    exact ⟨_, _, _, _, _, _, hE, .inl ⟨hpl, rfl, rfl⟩⟩
  | some a =>
    rw [hpl] at hE
    obtain ⟨x, o', outs, h1, h2, h3, h4⟩ := hE
    rw [hw] at h2
    have ho := h2.uniq hR
    subst ho
    obtain ⟨x', hx', hv⟩ := placeL_some hpl
    rw [h1] at hx'
    cases hx'
    obtain ⟨hU, h0, _⟩ := hps.up hr h hT h1 hv s.p s.b
    obtain ⟨up, hup⟩ : ∃ up, up = upF t x ps s.p s.b := ⟨_, rfl⟩
    rw [← hup] at h3 h4 hU
    -- the root is the source's
    have hrt : a = 0 → s.p = 256 * (200 + r) ∧ up = 256 * (200 + r) + 1 := fun ha => by
      subst ha
      have hx0 := h0 rfl
      have e := hT.hd
      rw [h1] at e
      cases e
      have hv : s.v = ⟨1, r⟩ := hv
      rcases hs.v with ⟨R, e1, e2⟩ | ⟨e1, _⟩
      · rw [hv] at e1
        have hrR : r = R := congrArg Vt.i e1
        subst hrR
        refine ⟨e2, ?_⟩
        rw [hup]
        unfold upF
        rw [show ltB (rootN s.v).p 0 = true from by rw [ltB_eq]; exact decide_eq_true hx0, e2, hs.b]
        exact hps.root hr
      · rw [hv] at e1
        cases e1
    have hsp : s.p = 256 * (200 + r) → a = 0 := fun e => by
      rcases hs.v with ⟨R, e1, e2⟩ | ⟨e1, e2⟩
      · have : R = r := by omega
        subst this
        exact hT.gr.inj h1 hT.hd (by rw [hv]; exact e1.symm)
      · omega
    -- what it goes on to at first
    have hO : ∀ w ∈ outs0 t a o' ps 7, (w.a = 256 * (200 + r) + 1 ∧ hb = true) ∨ (1000 ≤ w.a ∧ w.a ≤ 2036) ∨ ∃ (i : Nat) (m : Nd) (y N : Int), t[i]? = some m ∧ m.p = a ∧ m.v = ⟨2, N⟩ ∧ o'[i]? = some y ∧ 0 ≤ y ∧ w.a = N + r ∧ N % 256 = 0 ∧ 25856 ≤ N ∧ N ≤ 27648 := fun w hw => by
      rcases outs0_mem.1 hw with ⟨i, m, y, k1, k2, k3⟩ | ⟨p, hp, k⟩
      · obtain ⟨q1, q2, q3⟩ := out1_mem.1 k3
        obtain ⟨_, (⟨_, c1, c2⟩ | ⟨N, c1, c2, c3, c4, c5⟩)⟩ := h.kid hT h1 hv k1 q1
        · rw [q3]; exact .inr (.inl ⟨c1, c2⟩)
        · rw [q3]; exact .inr (.inr ⟨i, m, y, N, k1, q1, c1, k2, q2, c2, c3, c4, c5⟩)
      · rcases (hps.po p hp).kd with ⟨_, _, _, c⟩ | ⟨_, c, _⟩ | ⟨_, _, c⟩
        · rw [c] at k; cases k
        · rw [c] at k; cases k
        · rw [c] at k
          unfold stO at k
          cases hb with
          | true => rw [List.mem_singleton.1 k]; exact .inl ⟨rfl, rfl⟩
          | false => cases k
    refine ⟨_, _, _, _, outs, _, h4, .inr ⟨a, hpl, rfl, h3.pw, fun x' hx' => ?_, fun i m N y k1 k2 k3 k4 k5 => ?_, ?_⟩⟩
    · rcases hO x' ((h3.mem x').1 hx').1 with ⟨c, _⟩ | c | c
      · exact .inl c
      · exact .inr (.inl c)
      · exact .inr (.inr c)
    · obtain ⟨hai, (⟨c, _⟩ | ⟨N', c1, c2, c3, c4, c5⟩)⟩ := h.kid hT h1 hv k1 k2
      · rw [k3] at c; cases c
      have hNN : N' = N := by rw [k3] at c1; exact (congrArg Vt.i c1).symm
      subst hNN
      have hwO : (⟨m.d, match eqB m.v.k 1 with | true => wr .i64 (y + 1) | false => y⟩ : Ot) ∈ outs0 t a o' ps 7 := outs0_mem.2 (.inl ⟨i, m, y, k1, k4, out1_mem.2 ⟨k2, k5, rfl⟩⟩)
      obtain ⟨z, hz, hza⟩ := h3.ex hwO (by
        show m.d ≠ up
        intro e
        cases hU with
        | root ha => have := (hrt ha).2; omega
        | rtr p' y' h5 h6 h7 h8 h9 => omega
        | net p' y' N2 h5 h6 h7 h8 h9 h10 h11 h12 =>
          have : N2 = N' := by omega
          subst this
          have : p' = i := hT.gr.inj h6 k1 (by rw [h8, k3])
          omega)
      exact ⟨z, hz, by rw [hza]; exact c2⟩
    · constructor
      · rintro ⟨z, hz, hza⟩
        obtain ⟨q1, q2, _⟩ := (h3.mem z).1 hz
        refine ⟨?_, fun e => ?_⟩
        · rcases hO z q1 with ⟨_, c⟩ | c | ⟨_, _, _, N, _, _, _, _, _, c, _, _, c'⟩
          · exact c
          · omega
          · omega
        · exact q2 (by rw [hza, (hrt (hsp e)).2])
      · rintro ⟨rfl, hne⟩
        obtain ⟨p, hp, _, _, c⟩ := hps.st
        have hwO : (⟨256 * (200 + r) + 1, 1⟩ : Ot) ∈ outs0 t a o' ps 7 := outs0_mem.2 (.inr ⟨p, hp, by rw [c]; exact List.mem_singleton.2 rfl⟩)
        exact h3.ex hwO (by
          show 256 * (200 + r) + 1 ≠ up
          intro e
          cases hU with
          | root ha => exact hne (hrt ha).1
          | rtr p' y' h5 h6 h7 h8 h9 => omega
          | net p' y' N2 h5 h6 h7 h8 h9 h10 h11 h12 => omega)
theorem inc_len : ∀ (l : List Ot) (lo hi : Int), l.Pairwise (fun a b => a.a < b.a) → (∀ x ∈ l, lo ≤ x.a ∧ x.a < hi) → lo ≤ hi → (l.length : Int) ≤ hi - lo
  | [], lo, hi, _, _, h => by simp only [List.length_nil]; omega
  | x :: l, lo, hi, hp, hx, h => by
    obtain ⟨h1, h2⟩ := List.pairwise_cons.1 hp
    have hxx := hx x (List.mem_cons_self ..)
    have := inc_len l (x.a + 1) hi h2 (fun y hy => ⟨by have := h1 y hy; omega, (hx y (List.mem_cons_of_mem _ hy)).2⟩) (by omega)
    simp only [List.length_cons]
    omega
theorem Otr.len {t : List Nd} {o : List Int} {r : Int} {hb : Bool} {sp : Int} {outs : List Ot} {e : Int} (h : Otr t o r hb sp outs e) (hr : 1 ≤ r ∧ r ≤ 6) : outs.length ≤ 60000 := by
  rcases h with ⟨_, rfl, _⟩ | ⟨a, _, _, hG⟩
  · exact Nat.zero_le _
  · have := inc_len outs 0 60000 hG.pw (fun x hx => by
      rcases hG.kd x hx with c | c | ⟨_, _, _, N, _, _, _, _, _, c, _, c1, c2⟩
      · omega
      · omega
      · omega) (by omega)
    omega
/-! ### the stub -/
def isS (r : Int) (x : Ot) : Bool := decide (x.a / 256 = 200 + r)
theorem OtG.stub {t : List Nd} {o : List Int} {r : Int} {hb : Bool} {sp : Int} {a : Nat} {outs : List Ot} (h : OtG t o r hb sp a outs) (hr : 1 ≤ r ∧ r ≤ 6) : (outs.filter (isS r)).length = if hb = true ∧ sp ≠ 256 * (200 + r) then 1 else 0 := by
  have hall : ∀ x ∈ outs.filter (isS r), x.a = 256 * (200 + r) + 1 := fun x hx => by
    obtain ⟨h1, h2⟩ := List.mem_filter.1 hx
    have h2 : x.a / 256 = 200 + r := of_decide_eq_true h2
    rcases h.kd x h1 with c | c | ⟨_, _, _, N, _, _, _, _, _, c, _, _, c'⟩
    · exact c
    · omega
    · omega
  have hpw : (outs.filter (isS r)).Pairwise (fun x y => x.a < y.a) := h.pw.filter _
  split
  · rename_i hc
    obtain ⟨x, hx, hxa⟩ := h.st.2 hc
    have hxm : x ∈ outs.filter (isS r) := List.mem_filter.2 ⟨hx, decide_eq_true (by omega)⟩
    match hF : outs.filter (isS r), hall, hpw, hxm with
    | [], _, _, hxm => cases hxm
    | [y], _, _, _ => rfl
    | y :: w :: l, hall, hpw, _ =>
      rw [List.pairwise_cons] at hpw
      have h1 := hpw.1 w (List.mem_cons_self ..)
      rw [hall y (List.mem_cons_self ..), hall w (List.mem_cons_of_mem _ (List.mem_cons_self ..))] at h1
      omega
  · rename_i hc
    match hF : outs.filter (isS r), hall with
    | [], _ => rfl
    | y :: l, hall =>
      have hy : y ∈ outs.filter (isS r) := by rw [hF]; exact List.mem_cons_self ..
      exact absurd (h.st.1 ⟨y, (List.mem_filter.1 hy).1, hall y (List.mem_cons_self ..)⟩) hc
/-! ### the networks -/
def mtF (r xa : Int) (e : Eg) : Bool := decide (e.f = ⟨1, r⟩) && (eqB e.t.k 2 && eqB e.d xa)
def hitF (t : List Nd) (r xa : Int) (e : Eg) : List Nat := match mtF r xa e with
  | true => (placeL t e.t).toList
  | false => []
theorem mtF_iff {r xa : Int} {e : Eg} : mtF r xa e = true ↔ e.f = ⟨1, r⟩ ∧ e.t.k = 2 ∧ e.d = xa := by
  unfold mtF
  rw [Bool.and_eq_true, Bool.and_eq_true, eqB_eq, eqB_eq]
  simp
theorem hitF_mem {t : List Nd} {r xa : Int} {e : Eg} {i : Nat} : i ∈ hitF t r xa e ↔ e.f = ⟨1, r⟩ ∧ e.t.k = 2 ∧ e.d = xa ∧ placeL t e.t = some i := by
  unfold hitF
  cases hm : mtF r xa e with
  | false =>
    constructor
    · exact fun h => nomatch h
    · rintro ⟨h1, h2, h3, _⟩
      rw [mtF_iff.2 ⟨h1, h2, h3⟩] at hm
      cases hm
  | true =>
    obtain ⟨h1, h2, h3⟩ := mtF_iff.1 hm
    show i ∈ (placeL t e.t).toList ↔ _
    rw [Option.mem_toList]
    exact ⟨fun h => ⟨h1, h2, h3, h⟩, fun h => h.2.2.2⟩
def hitX (t : List Nd) (es : List Eg) (r : Int) (x : Ot) : List Nat := es.flatMap (hitF t r x.a)
def hitR (t : List Nd) (es : List Eg) (r : Int) (outs : List Ot) : List Nat := outs.flatMap (hitX t es r)
theorem hitR_mem {t : List Nd} {es : List Eg} {r : Int} {outs : List Ot} {i : Nat} : i ∈ hitR t es r outs ↔ ∃ x ∈ outs, ∃ e ∈ es, e.f = ⟨1, r⟩ ∧ e.t.k = 2 ∧ e.d = x.a ∧ placeL t e.t = some i := by
  unfold hitR hitX
  rw [List.mem_flatMap]
  refine exists_congr fun x => and_congr_right fun _ => ?_
  rw [List.mem_flatMap]
  exact exists_congr fun e => and_congr_right fun _ => hitF_mem
theorem from_f {v : Vt} {e : Eg} (h : e ∈ fromL l v) : e.f = v := by
  unfold fromL at h
  rcases List.mem_append.1 h with h | h
  · obtain ⟨q, _, hq⟩ := List.mem_flatMap.1 h
    unfold edK edK1 edK2 at hq
    rcases List.mem_append.1 hq with hq | hq
    all_goals
      split at hq
      · split at hq
        · rw [List.mem_singleton.1 hq]
        · cases hq
      · cases hq
  · have key : ∀ j, e ∈ edRs l v ((findL l v).getD zLs).rt j → e.f = v := by
      intro j
      induction j with
      | zero => exact fun h => nomatch h
      | succ j ih =>
        intro h
        unfold edRs at h
        rcases List.mem_append.1 h with h | h
        · exact ih h
        · split at h
          · unfold edR at h
            split at h
            · cases h
            · split at h
              · rw [List.mem_singleton.1 h]
              · cases h
          · cases h
    exact key _ h
/-- A router has one edge to a network at the most. -/
theorem Mde.es_u (h : Mde n P Q non l) : (mapL l).es.Pairwise (fun e e' => e.f.k = 1 → e.t.k = 2 → ¬ (e'.f = e.f ∧ e'.t = e.t)) := by
  show ((vertsL l).flatMap (fromL l)).Pairwise _
  rw [List.pairwise_flatMap]
  refine ⟨fun v hv => ?_, (verts_nd l).imp (fun {a b} hab x hx y hy _ _ hh => hab (by rw [← from_f hx, ← from_f hy, hh.1]))⟩
  rcases verts_kind hv with hk | hk
  · obtain ⟨x, hx⟩ : ∃ x, findL l v = some x := Option.isSome_iff_exists.1 (vert_found hv)
    obtain ⟨hu, _, _⟩ := h.rtr hx hk
    rcases h.find hx with ⟨_, _, _, hrt, _⟩ | ⟨c, _⟩
    · unfold fromL
      rw [hx]
      show (x.lk.flatMap (edK l v) ++ edRs l v x.rt x.rt.length).Pairwise _
      rw [hrt]
      show (x.lk.flatMap (edK l v) ++ []).Pairwise _
      rw [List.append_nil, List.pairwise_flatMap]
      have k1 : ∀ {q : Lk} {e : Eg}, e ∈ edK l v q → e.t.k = 2 → q.k = 2 ∧ e.t = ⟨2, q.i⟩ ∧ e ∈ edK2 l v q := fun {q e} he ht => by
        unfold edK at he
        rcases List.mem_append.1 he with he | he
        · unfold edK1 at he
          split at he
          · split at he
            · rw [List.mem_singleton.1 he] at ht; cases ht
            · cases he
          · cases he
        · have he' := he
          unfold edK2 at he
          split at he
          · rename_i hq
            split at he
            · rw [eqB_eq] at hq
              refine ⟨of_decide_eq_true hq, ?_, he'⟩
              rw [List.mem_singleton.1 he]
            · cases he
          · cases he
      refine ⟨fun q _ => ?_, List.Pairwise.imp (fun {q q'} hq e he e' he' _ ht hh => ?_) hu⟩
      · unfold edK
        rw [List.pairwise_append]
        have l1 : ∀ (L : List Eg), L.length ≤ 1 → L.Pairwise (fun e e' => e.f.k = 1 → e.t.k = 2 → ¬ (e'.f = e.f ∧ e'.t = e.t)) := fun L hL => by
          match L, hL with
          | [], _ => exact List.Pairwise.nil
          | [_], _ => exact List.pairwise_singleton _ _
        refine ⟨l1 _ (edK1_len l v q), l1 _ (edK2_len l v q), fun e he e' he' _ ht => ?_⟩
        unfold edK1 at he
        split at he
        · split at he
          · rw [List.mem_singleton.1 he] at ht; cases ht
          · cases he
        · cases he
      · obtain ⟨a1, a2, _⟩ := k1 he ht
        obtain ⟨b1, b2, _⟩ := k1 he' (by rw [hh.2]; exact ht)
        refine hq a1 b1 ?_
        rw [a2, b2] at hh
        exact (congrArg Vt.i hh.2).symm
    · omega
  · refine (List.pairwise_of_forall_mem_list ?_ : List.Pairwise _ _)
    intro e he e' _ h1
    rw [from_f he, hk] at h1
    cases h1
theorem nd_count {i : Nat} : ∀ {L : List Nat}, L.Nodup → L.count i = if i ∈ L then 1 else 0
  | [], _ => rfl
  | x :: L, hL => by
    obtain ⟨h1, h2⟩ := List.nodup_cons.1 hL
    rw [List.count_cons, nd_count h2]
    by_cases hx : x = i
    · subst hx
      rw [if_neg h1, if_pos (List.mem_cons_self ..)]
      simp
    · have hx' : ¬ i = x := fun e => hx e.symm
      by_cases hi : i ∈ L
      · rw [if_pos hi, if_pos (List.mem_cons_of_mem _ hi)]
        simp [hx]
      · have e : ¬ i ∈ x :: L := by rw [List.mem_cons]; exact fun h => h.elim hx' hi
        rw [if_neg hi, if_neg e]
        simp [hx]
theorem flat_pre {α β : Type} (f : α → List β) {l : List α} {i : Nat} {x : α} (hx : l[i]? = some x) : ∃ R, l.flatMap f = (l.take i).flatMap f ++ f x ++ R := by
  refine ⟨(l.drop (i + 1)).flatMap f, ?_⟩
  have hl := (List.getElem?_eq_some_iff.1 hx).1
  have : l = l.take i ++ x :: l.drop (i + 1) := by
    conv => lhs; rw [← List.take_append_drop i l]
    rw [List.drop_eq_getElem_cons hl, (List.getElem?_eq_some_iff.1 hx).2]
  conv => lhs; rw [this]
  rw [List.flatMap_append, List.flatMap_cons, List.append_assoc]
/-- A number in what has been gone through so far. -/
theorem part_count {t : List Nd} {es : List Eg} {r : Int} {outs : List Ot} {L : List Nat} (h : (L ++ hitR t es r outs).Nodup) {i d : Nat} {x : Ot} {ed : Eg} (hx : outs[i]? = some x) (hed : es[d]? = some ed) (c : Nat) : (L ++ (outs.take i).flatMap (hitX t es r) ++ (es.take d).flatMap (hitF t r x.a)).count c ≤ 1 := by
  obtain ⟨R1, h1⟩ := flat_pre (hitX t es r) hx
  obtain ⟨R2, h2⟩ := flat_pre (hitF t r x.a) hed
  unfold hitR at h
  rw [h1] at h
  have e : hitX t es r x = es.flatMap (hitF t r x.a) := rfl
  rw [e, h2] at h
  have hs : (L ++ (outs.take i).flatMap (hitX t es r) ++ (es.take d).flatMap (hitF t r x.a)).Nodup := by
    refine h.sublist ?_
    simp only [List.append_assoc]
    exact List.Sublist.append_left (List.Sublist.append_left (List.sublist_append_left _ _) _) _
  rw [nd_count hs]
  split <;> omega
/-- Who is gone on to by the first j routers. -/
def Hit (t : List Nd) (o : List Int) (j : Nat) (i : Nat) : Prop := ∃ (m : Nd) (N y r : Int) (a : Nat), 1 ≤ r ∧ r ≤ j ∧ t[i]? = some m ∧ m.v = ⟨2, N⟩ ∧ placeL t ⟨1, r⟩ = some a ∧ m.p = a ∧ o[i]? = some y ∧ 0 ≤ y
structure PL (t : List Nd) (o : List Int) (j : Nat) (L : List Nat) : Prop where
  nd : L.Nodup
  mem : ∀ i, i ∈ L ↔ Hit t o j i
theorem PL.zero (t : List Nd) (o : List Int) : PL t o 0 [] := ⟨List.nodup_nil, fun i => ⟨fun h => (nomatch h), fun ⟨_, _, _, _, _, h1, h2, _⟩ => by omega⟩⟩
section
variable {v : Vt} {t : List Nd} {o : List Int} {r : Int} {hb : Bool} {sp e : Int} {outs : List Ot}
/-- A matching edge's network is in the tree, a kid of the router's. -/
theorem Otr.match_ (h : Mde n P Q non l) (hT : Tr l v t) (hO : Otr t o r hb sp outs e) (hr : 1 ≤ r ∧ r ≤ 6) {x : Ot} (hx : x ∈ outs) {ed : Eg} (hed : ed ∈ (mapL l).es) (h1 : ed.f = ⟨1, r⟩) (h2 : ed.t.k = 2) (h3 : ed.d = x.a) : ∃ (i a : Nat) (m : Nd) (y N : Int), placeL t ed.t = some i ∧ placeL t ⟨1, r⟩ = some a ∧ t[i]? = some m ∧ m.p = a ∧ m.v = ⟨2, N⟩ ∧ ed.t = ⟨2, N⟩ ∧ x.a = N + r ∧ o[i]? = some y ∧ 0 ≤ y := by
  rcases hO with ⟨_, rfl, _⟩ | ⟨a, hpl, _, hG⟩
  · cases hx
  cases h.ed3 hed with
  | rr a' b' k1 k2 => rw [k2] at h2; cases h2
  | nr N r' k1 k2 => rw [k2] at h2; cases h2
  | rn r' N k1 k2 k3 k4 k5 k6 =>
    rw [h1] at k1
    have hrr : r = r' := congrArg Vt.i k1
    rcases hG.kd x hx with c | c | ⟨i, m, y, N', c1, c2, c3, c4, c5, c6, c7, c8, c9⟩
    · omega
    · omega
    · have : N' = N := by omega
      subst this
      refine ⟨i, a, m, y, N', ?_, hpl, c1, c2, c3, k2, c6, c4, c5⟩
      rw [k2, ← c3]
      exact hT.gr.place c1
theorem PL.step (h : Mde n P Q non l) (hT : Tr l v t) {j : Nat} {L : List Nat} (hL : PL t o j L) (hj : r = (j : Int) + 1) (hr : 1 ≤ r ∧ r ≤ 6) (hO : Otr t o r hb sp outs e) : PL t o (j + 1) (L ++ hitR t (mapL l).es r outs) := by
  have hmem : ∀ i, i ∈ hitR t (mapL l).es r outs ↔ ∃ (m : Nd) (N y : Int) (a : Nat), t[i]? = some m ∧ m.v = ⟨2, N⟩ ∧ placeL t ⟨1, r⟩ = some a ∧ m.p = a ∧ o[i]? = some y ∧ 0 ≤ y := fun i => by
    rw [hitR_mem]
    constructor
    · rintro ⟨x, hx, ed, hed, h1, h2, h3, h4⟩
      obtain ⟨i', a, m, y, N, k1, k2, k3, k4, k5, _, _, k6, k7⟩ := hO.match_ h hT hr hx hed h1 h2 h3
      rw [h4] at k1
      cases k1
      exact ⟨m, N, y, a, k3, k5, k2, k4, k6, k7⟩
    · rintro ⟨m, N, y, a, k1, k2, k3, k4, k5, k6⟩
      rcases hO with ⟨c, _⟩ | ⟨a', hpl, _, hG⟩
      · rw [k3] at c; cases c
      rw [hpl] at k3
      cases k3
      obtain ⟨x, hx, hxa⟩ := hG.net i m N y k1 k4 k2 k5 k6
      obtain ⟨x0, hx0, hv0⟩ := placeL_some hpl
      have hi : 0 < i := by
        rcases Nat.eq_zero_or_pos i with rfl | hi
        · have := hT.tre.root m k1; omega
        · exact hi
      obtain ⟨ed, hed, p, y', _, hy, hyv, het, hmp, _⟩ := hT.gr.edge hi k1
      have hpa : p = a := by omega
      subst hpa
      rw [hx0] at hy
      cases hy
      rw [hv0] at hyv
      refine ⟨x, hx, ed, hed, hyv.symm, by rw [het, k2], ?_, by rw [het]; exact hT.gr.place k1⟩
      cases h.ed3 hed with
      | rr a1 b1 q1 q2 => rw [het, k2] at q2; cases q2
      | nr N1 r1 q1 q2 => rw [het, k2] at q2; cases q2
      | rn r1 N1 q1 q2 q3 =>
        rw [het, k2] at q2
        rw [← hyv] at q1
        have e1 : r = r1 := congrArg Vt.i q1
        have e2 : N = N1 := congrArg Vt.i q2
        omega
  have hnd : (hitR t (mapL l).es r outs).Nodup := by
    unfold hitR
    show (outs.flatMap (hitX t (mapL l).es r)).Pairwise _
    rw [List.pairwise_flatMap]
    have pl : ∀ {w w' : Vt} {i : Nat}, placeL t w = some i → placeL t w' = some i → w = w' := fun {w w' i} a b => by
      obtain ⟨x1, y1, z1⟩ := placeL_some a
      obtain ⟨x2, y2, z2⟩ := placeL_some b
      rw [y1] at y2
      cases y2
      rw [← z1, ← z2]
    refine ⟨fun x hx => ?_, ?_⟩
    · unfold hitX
      rw [List.pairwise_flatMap]
      refine ⟨fun ed _ => ?_, h.es_u.imp (fun {e1 e2} hu i hi i' hi' hii => ?_)⟩
      · unfold hitF
        split
        · cases placeL t ed.t with
          | none => exact List.Pairwise.nil
          | some i => exact List.pairwise_singleton _ _
        · exact List.Pairwise.nil
      · subst hii
        obtain ⟨a1, a2, a3, a4⟩ := hitF_mem.1 hi
        obtain ⟨b1, b2, b3, b4⟩ := hitF_mem.1 hi'
        exact hu (by rw [a1]) a2 ⟨by rw [a1, b1], pl b4 a4⟩
    · have hpw : outs.Pairwise (fun x y => x.a < y.a) := by
        rcases hO with ⟨_, rfl, _⟩ | ⟨_, _, _, hG⟩
        · exact List.Pairwise.nil
        · exact hG.pw
      refine hpw.imp_of_mem (fun {x y} hx hy hxy i hi i' hi' hii => ?_)
      subst hii
      unfold hitX at hi hi'
      obtain ⟨e1, he1, hi⟩ := List.mem_flatMap.1 hi
      obtain ⟨e2, he2, hi'⟩ := List.mem_flatMap.1 hi'
      obtain ⟨a1, a2, a3, a4⟩ := hitF_mem.1 hi
      obtain ⟨b1, b2, b3, b4⟩ := hitF_mem.1 hi'
      obtain ⟨_, _, _, _, N, _, _, _, _, _, c1, c2, _⟩ := hO.match_ h hT hr hx he1 a1 a2 a3
      obtain ⟨_, _, _, _, N', _, _, _, _, _, d1, d2, _⟩ := hO.match_ h hT hr hy he2 b1 b2 b3
      have := pl a4 b4
      rw [c1, d1] at this
      have := congrArg Vt.i this
      simp only at this
      omega
  refine ⟨?_, fun i => ?_⟩
  · rw [List.nodup_append]
    refine ⟨hL.nd, hnd, fun i hi i' hi' hii => ?_⟩
    subst hii
    obtain ⟨m, N, y, r', a, k1, k2, k3, k4, k5, k6, _⟩ := (hL.mem i).1 hi
    obtain ⟨m', _, _, a', q1, _, q3, q4, _⟩ := (hmem i).1 hi'
    rw [k3] at q1
    cases q1
    have : a = a' := by omega
    subst this
    obtain ⟨x1, y1, z1⟩ := placeL_some k5
    obtain ⟨x2, y2, z2⟩ := placeL_some q3
    rw [y1] at y2
    cases y2
    rw [z1] at z2
    have := congrArg Vt.i z2
    simp only at this
    omega
  · rw [List.mem_append, hL.mem, hmem]
    constructor
    · rintro (⟨m, N, y, r', a, k1, k2, k⟩ | ⟨m, N, y, a, k⟩)
      · exact ⟨m, N, y, r', a, k1, by omega, k⟩
      · exact ⟨m, N, y, r, a, hr.1, by omega, k⟩
    · rintro ⟨m, N, y, r', a, k1, k2, k⟩
      by_cases hc : r' = r
      · subst hc
        exact .inr ⟨m, N, y, a, k⟩
      · exact .inl ⟨m, N, y, r', a, k1, by omega, k⟩
/-- In the end: each network beneath that is on the way to a member, once. -/
theorem PL.fin (h : Mde n P Q non l) (hT : Tr l v t) {k : Nat} (hk : (k : Int) = 1 + n % 6) {L : List Nat} (hL : PL t o k L) {i : Nat} {m : Nd} {y : Int} (hm : t[i]? = some m) (hy : o[i]? = some y) (hmk : m.v.k = 2) : L.count i = if 0 < i ∧ 0 ≤ y then 1 else 0 := by
  rw [nd_count hL.nd]
  have hvm : m.v = ⟨2, m.v.i⟩ := by cases hq : m.v; rw [hq] at hmk; simp only at hmk; rw [hmk]
  have : i ∈ L ↔ 0 < i ∧ 0 ≤ y := by
    rw [hL.mem]
    constructor
    · rintro ⟨m', N, y', r', a, k1, k2, k3, k4, k5, k6, k7, k8⟩
      rw [hm] at k3
      cases k3
      rw [hy] at k7
      cases k7
      refine ⟨?_, k8⟩
      rcases Nat.eq_zero_or_pos i with rfl | hi
      · have := hT.tre.root m hm; omega
      · exact hi
    · rintro ⟨hi, hy0⟩
      obtain ⟨ed, hed, p, x, _, hx, hxv, het, hmp, _⟩ := hT.gr.edge hi hm
      cases h.ed3 hed with
      | rr a1 b1 q1 q2 => rw [het, hvm] at q2; cases q2
      | nr N1 r1 q1 q2 => rw [het, hvm] at q2; cases q2
      | rn r1 N1 q1 q2 q3 =>
        rw [q1] at hxv
        have hxs := hT.vs x (List.mem_of_getElem? hx)
        rw [hxv] at hxs
        obtain ⟨c1, c2⟩ := h.vert.1 hxs
        exact ⟨m, m.v.i, y, r1, p, c1, by omega, hm, hvm, by rw [← hxv]; exact hT.gr.place hx, hmp, hy, hy0⟩
  by_cases hq : 0 < i ∧ 0 ≤ y
  · rw [if_pos (this.2 hq), if_pos hq]
  · rw [if_neg (fun h => hq (this.1 h)), if_neg hq]
end
/-! ### counts as a slice -/
def cntN (n : Nat) (L : List Nat) : List Int := (List.range n).map (fun i => (L.count i : Int))
theorem cntN_len (n : Nat) (L : List Nat) : (cntN n L).length = n := by unfold cntN; rw [List.length_map, List.length_range]
theorem cntN_at {n : Nat} (L : List Nat) {i : Nat} (hi : i < n) : (cntN n L)[i]? = some (L.count i : Int) := by
  unfold cntN
  rw [List.getElem?_map, List.getElem?_range hi]
  rfl
theorem cntN_zero (n : Nat) : cntN (n + 1) [] = cntN n [] ++ [0] := by
  unfold cntN
  rw [List.range_succ, List.map_append]
  rfl
theorem cntN_add {n : Nat} (L : List Nat) {i : Nat} (hi : i < n) : cntN n (L ++ [i]) = (cntN n L).set i ((L.count i : Int) + 1) := by
  apply List.ext_getElem?
  intro j
  by_cases hj : j < n
  · rw [cntN_at _ hj, List.count_append]
    by_cases hij : i = j
    · subst hij
      rw [List.getElem?_set_self (by rw [cntN_len]; exact hi)]
      simp
    · rw [List.getElem?_set_ne hij, cntN_at _ hj]
      simp [hij]
  · rw [List.getElem?_eq_none (by rw [cntN_len]; omega), List.getElem?_eq_none (by rw [List.length_set, cntN_len]; omega)]
end
end Go.Proofs.Ytmocggibcniggaa.Kt
namespace Go.Proofs.Ytmocggibcniggaa.Kt
open Go Kw Go.Proofs
attribute [local irreducible] Kw.GI Kw.GR Kw.FnR Kw.FnX Kw.FnI
set_option maxHeartbeats 16000000
set_option maxRecDepth 100000
/-! ### some members -/
abbrev fsV (l : List Vt) : AV := .r (.fs 2 (l.map Vt.row))
abbrev RMb (n : Nat) : AV → Hp → Sp → Prop := fun r H S => ∃ ms : List Vt, ms.length ≤ n ∧ r = fsV ms ∧ H = [] ∧ S = []
theorem stLL_Vv : ∀ (l : List Vt), stLL (l.map Vt.row) = true
  | [] => rfl
  | c :: l => by
    show (stL (Vt.row c) && stLL (l.map Vt.row)) = true
    rw [stLL_Vv l]; rfl
theorem pMb {n : Nat} : ∀ r H1 S1, RMb n r H1 S1 → stA r = true ∧ StH H1 ∧ StS S1 := by
  rintro r H S ⟨ms, _, rfl, rfl, rfl⟩
  exact ⟨stLL_Vv ms, StH.nil, stS_nil⟩
theorem Members_ok (l : List Ls) (hl : l.length < 100000) (h c : Int) : FnX Try.prog 35 [fsL l, u8 h, u8 c] [] [] (RMb (2 * l.length)) := by
  refine fnX_intro (T := TT) (n := 67) Try.func35 rfl rfl rfl (fun w X Z Y B => ?_)
  (repeat (first | refine r_end ?_ | (refine r_op ?_; refine r_pure hT rfl rfl rfl rfl rfl rfl ?_) | refine gi_seq ?_ | refine gi_plain ?_ | refine gi_block ?_))
  refine gi_thaw 0 rfl ?_
  refine gi_adopt (e := 34) (sz := 2) 7 rfl ?_
  refine gi_loop (σ := Nat × Nat × List Vt) (fun s => [(9, I (s.1 : Int)), (8, I (s.2.1 : Int)), (7, .sl 0), (0, .r (.rs 12 (l.map Ls.row))), (1, u8 h), (2, u8 c)]) (fun _ => []) (fun s => [eV s.2.2]) (fun s => s.1 ≤ l.length ∧ s.2.1 ≤ s.1 ∧ s.2.2.length ≤ 2 * s.1) (fun s => l.length - s.1) (0, 0, []) ⟨Nat.zero_le _, Nat.le_refl _, Nat.le_refl _⟩ ⟨rfl, rfl, rfl, rfl, rfl, rfl, trivial⟩ trivial ⟨rfl, trivial⟩ (fun _ => rfl) (fun s hs next => ?_)
  obtain ⟨j, d, ms⟩ := s
  obtain ⟨hj, hd, hm⟩ := hs
  simp only at hj hd hm
  (repeat (first | refine r_end ?_ | (refine r_op ?_; refine r_pure hT rfl rfl rfl rfl rfl rfl ?_) | refine gi_seq ?_ | refine gi_plain ?_))
  refine gi_lt (q := ((l.map Ls.row).length : Int)) rfl (fun h3 => ?_) (fun h3 => ?_)
  · rw [List.length_map] at h3
    simp only at h3
    have hjl : j < l.length := by omega
    obtain ⟨x, hx⟩ : ∃ x, l[j]? = some x := ⟨_, List.getElem?_eq_getElem hjl⟩
    have on : ∀ (d' : Nat) (m' : List Vt), d' ≤ j + 1 → m'.length ≤ 2 * (j + 1) → ∀ F1 H1 S1, SubF [(9, I (wr .i64 ((j : Int) + 1))), (8, I (d' : Int)), (7, .sl 0), (0, .r (.rs 12 (l.map Ls.row))), (1, u8 h), (2, u8 c)] F1 → SubH [] H1 → SubS [eV m'] S1 → GI _ _ F1 H1 S1 := fun d' m' hd' hm' F1 H1 S1 hF hH hS => by
      refine next (j + 1, d', m') F1 H1 S1 ⟨hjl, hd', hm'⟩ (by simp only; omega) ?_ hH hS
      rw [wadd1 (by omega)] at hF
      exact hF
    clear next
    apply gi_cut (σ := List Vt) (fun _ => [(9, I (j : Int)), (8, I (d : Int)), (7, .sl 0), (0, .r (.rs 12 (l.map Ls.row))), (1, u8 h), (2, u8 c)]) (fun _ => []) (fun m' => [eV m']) (fun m' => m'.length ≤ 2 * j + 1) (fun _ => rfl)
    case first =>
      intro fin
      (repeat (first | (refine r_op ?_; refine r_pure hT rfl rfl rfl rfl rfl rfl ?_) | refine gi_seq ?_ | refine gi_plain ?_ | refine gi_skip ?_ | refine gi_block ?_))
      refine r_idx (row := x.row) hT rfl rfl rfl rfl rfl rfl rfl rfl rfl rfl rfl rfl (nn j) (by simp [hx]) ?_
      (repeat ((refine r_op ?_; first | refine r_pure hT rfl rfl rfl rfl rfl rfl ?_ | refine r_load hT rfl rfl rfl rfl rfl rfl rfl rfl rfl ?_)))
      refine r_case (d := 23) rfl (fun c1 => ?_) (fun c1 => ?_)
      · (repeat ((refine r_op ?_; refine r_pure hT rfl rfl rfl rfl rfl rfl ?_)))
        refine r_shr rfl rfl rfl rfl rfl rfl rfl rfl (by rw [wr_eq]; show 0 ≤ (IntKind.u64).wrap _; rw [IntKind.wrap_u64]; omega) rfl ?_
        (repeat (first | refine r_end ?_ | (refine r_op ?_; refine r_pure hT rfl rfl rfl rfl rfl rfl ?_)))
        refine gi_cond rfl (fun c2 => ?_) (fun c2 => ?_)
        · (repeat (first | (refine r_op ?_; refine r_pure hT rfl rfl rfl rfl rfl rfl ?_) | refine gi_plain ?_))
          refine r_idx (row := x.row) hT rfl rfl rfl rfl rfl rfl rfl rfl rfl rfl rfl rfl (nn j) (by simp [hx]) ?_
          (repeat ((refine r_op ?_; first | refine r_pure hT rfl rfl rfl rfl rfl rfl ?_ | refine r_load hT rfl rfl rfl rfl rfl rfl rfl rfl rfl ?_)))
          refine r_callX [] [0] (Vert_ok ms ⟨1, x.id⟩ (by omega)) rfl rfl rfl rfl rfl rfl Try.func52 rfl rfl rfl rfl rfl rfl rfl pV1 ?_
          rintro r H1 S1 ⟨rfl, rfl, rfl⟩
          (repeat (first | refine r_end ?_ | (refine r_op ?_; refine r_pure hT rfl rfl rfl rfl rfl rfl ?_) | refine gi_seq ?_))
          refine gi_pick [] [1] rfl rfl rfl rfl rfl ?_
          have := insV_len (v := ⟨1, x.id⟩) ms
          exact fin _ _ _ _ (by omega) ⟨rfl, rfl, rfl, rfl, rfl, rfl, trivial⟩ trivial ⟨rfl, trivial⟩
        · (repeat (first | refine gi_seq ?_ | refine gi_skip ?_))
          exact fin ms _ _ _ (by omega) ⟨rfl, rfl, rfl, rfl, rfl, rfl, trivial⟩ trivial ⟨rfl, trivial⟩
      · (repeat (first | refine r_end ?_ | (refine r_op ?_; first | refine r_pure hT rfl rfl rfl rfl rfl rfl ?_ | refine r_off rfl rfl rfl rfl rfl ?_) | refine gi_seq ?_ | refine gi_skip ?_ | (refine gi_cnd ?_; first | refine gi_true rfl ?_ | refine gi_false rfl ?_)))
        exact fin ms _ _ _ (by omega) ⟨rfl, rfl, rfl, rfl, rfl, rfl, trivial⟩ trivial ⟨rfl, trivial⟩
    case after =>
      intro m1 hm1
      have hm1 : m1.length ≤ 2 * j + 1 := hm1
      (repeat (first | (refine r_op ?_; refine r_pure hT rfl rfl rfl rfl rfl rfl ?_) | refine gi_plain ?_))
      refine r_idx (row := x.row) hT rfl rfl rfl rfl rfl rfl rfl rfl rfl rfl rfl rfl (nn j) (by simp [hx]) ?_
      (repeat (first | refine r_end ?_ | (refine r_op ?_; first | refine r_pure hT rfl rfl rfl rfl rfl rfl ?_ | refine r_load hT rfl rfl rfl rfl rfl rfl rfl rfl rfl ?_)))
      refine gi_cond rfl (fun c1 => ?_) (fun c1 => ?_)
      · apply gi_cut (σ := List Vt) (fun _ => [(9, I (j : Int)), (8, I (d : Int)), (7, .sl 0), (0, .r (.rs 12 (l.map Ls.row))), (1, u8 h), (2, u8 c)]) (fun _ => []) (fun m' => [eV m']) (fun m' => m'.length ≤ 2 * j + 2) (fun _ => rfl)
        case first =>
          intro fin
          (repeat (first | (refine r_op ?_; refine r_pure hT rfl rfl rfl rfl rfl rfl ?_) | refine gi_seq ?_ | refine gi_plain ?_))
          refine r_shr rfl rfl rfl rfl rfl rfl rfl rfl (by rw [wr_eq]; show 0 ≤ (IntKind.u64).wrap _; rw [IntKind.wrap_u64]; omega) rfl ?_
          (repeat (first | refine r_end ?_ | (refine r_op ?_; refine r_pure hT rfl rfl rfl rfl rfl rfl ?_)))
          refine gi_cond rfl (fun c2 => ?_) (fun c2 => ?_)
          · (repeat (first | (refine r_op ?_; refine r_pure hT rfl rfl rfl rfl rfl rfl ?_) | refine gi_plain ?_))
            refine r_idx (row := x.row) hT rfl rfl rfl rfl rfl rfl rfl rfl rfl rfl rfl rfl (nn j) (by simp [hx]) ?_
            (repeat ((refine r_op ?_; first | refine r_pure hT rfl rfl rfl rfl rfl rfl ?_ | refine r_load hT rfl rfl rfl rfl rfl rfl rfl rfl rfl ?_)))
            refine r_callX [] [0] (Vert_ok m1 ⟨2, x.id⟩ (by omega)) rfl rfl rfl rfl rfl rfl Try.func52 rfl rfl rfl rfl rfl rfl rfl pV1 ?_
            rintro r H1 S1 ⟨rfl, rfl, rfl⟩
            (repeat (first | refine r_end ?_ | (refine r_op ?_; refine r_pure hT rfl rfl rfl rfl rfl rfl ?_)))
            refine gi_pick [] [1] rfl rfl rfl rfl rfl ?_
            have := insV_len (v := ⟨2, x.id⟩) m1
            exact fin _ _ _ _ (by omega) ⟨rfl, rfl, rfl, rfl, rfl, rfl, trivial⟩ trivial ⟨rfl, trivial⟩
          · (repeat (refine gi_skip ?_))
            exact fin m1 _ _ _ (by omega) ⟨rfl, rfl, rfl, rfl, rfl, rfl, trivial⟩ trivial ⟨rfl, trivial⟩
        case after =>
          intro m2 hm2
          have hm2 : m2.length ≤ 2 * j + 2 := hm2
          (repeat (first | refine r_end ?_ | (refine r_op ?_; refine r_pure hT rfl rfl rfl rfl rfl rfl ?_) | refine gi_plain ?_ | refine gi_inBlock ?_))
          refine on (d + 1) m2 (by omega) (by omega) _ _ _ ⟨rfl, ?_, rfl, rfl, rfl, rfl, trivial⟩ trivial ⟨rfl, trivial⟩
          show some (I (wr .i64 ((d : Int) + 1))) = _
          rw [wadd1 (by omega)]
      · (repeat (first | refine r_end ?_ | (refine r_op ?_; refine r_pure hT rfl rfl rfl rfl rfl rfl ?_) | refine gi_plain ?_ | refine gi_skip ?_ | refine gi_inBlock ?_))
        exact on d m1 (by omega) (by omega) _ _ _ ⟨rfl, rfl, rfl, rfl, rfl, rfl, trivial⟩ trivial ⟨rfl, trivial⟩
  · rw [List.length_map] at h3
    simp only at h3
    have hje : j = l.length := by omega
    subst hje
    (repeat (first | refine r_end ?_ | (refine r_op ?_; refine r_pure hT rfl rfl rfl rfl rfl rfl ?_) | refine gi_seq ?_ | refine gi_plain ?_ | refine gi_exit rfl ?_))
    refine gi_freeze 0 (L' := ms.map Vt.row) rfl rfl ?_
    refine gi_retX hT Try.func35 rfl [] [] rfl rfl rfl rfl rfl rfl rfl rfl ?_
    exact ⟨ms, hm, rfl, rfl, rfl⟩
end Go.Proofs.Ytmocggibcniggaa.Kt
namespace Go.Proofs.Ytmocggibcniggaa.Kt
open Go Kw Go.Proofs
attribute [local irreducible] Kw.GI Kw.GR Kw.FnR Kw.FnX Kw.FnI
set_option maxHeartbeats 16000000
set_option maxRecDepth 100000
/-! ### what a router of Graph's answers from a stub's address -/
def UpsD (t : List Nd) (r up e : Int) : Prop := (placeL t ⟨1, r⟩ = none ∧ e = 7) ∨ ∃ a x, placeL t ⟨1, r⟩ = some a ∧ t[a]? = some x ∧ e = 0 ∧ (a = 0 → up = 256 * (200 + r) + 1) ∧ (0 < a → ∃ (p : Nat) (y : Nd), t[p]? = some y ∧ x.p = p ∧ inR up y.v.i 24 = true)
end Go.Proofs.Ytmocggibcniggaa.Kt
namespace Go.Proofs.Ytmocggibcniggaa.Kt
open Go Kw Go.Proofs
attribute [local irreducible] Kw.GI Kw.GR Kw.FnR Kw.FnX Kw.FnI
set_option maxHeartbeats 32000000
set_option maxRecDepth 100000
theorem GraphOnce (n : Int) (hn : 0 ≤ n ∧ n ≤ 255) (ps qs : List Int) (hps : ∀ p ∈ ps, 0 ≤ p ∧ p ≤ 255) (hqs : ∀ p ∈ qs, 0 ≤ p ∧ p ≤ 255) : FnX Try.prog 28 [u8 n, rs8 ps, rs8 qs, nilA] [] [] (RGm n ps.length qs.length true) :=
  fnX_args (GraphM_ok n hn ps qs hps hqs []) (fun _ _ _ h => CL_setx (x := nilA) (y := rsB []) (j := 3) (fun u hu => C_nil_rs hu) rfl h)
theorem CutOnce_ok (n : Int) (hn : 0 ≤ n ∧ n ≤ 255) (ps qs : List Int) (hps : ∀ p ∈ ps, 0 ≤ p ∧ p ≤ 255) (hqs : ∀ p ∈ qs, 0 ≤ p ∧ p ≤ 255) (b : Int) (hb : 0 ≤ b ∧ b ≤ 255) (h c : Int) : FnR Try.prog 10 [u8 n, rs8 ps, rs8 qs, u8 b, u8 h, u8 c] (RB true) := by
  obtain ⟨k, hk⟩ : ∃ k : Nat, (k : Int) = 1 + n % 6 := ⟨(1 + n % 6).toNat, by omega⟩
  have hk6 : 1 ≤ k ∧ k ≤ 6 := by omega
  obtain ⟨R, hR⟩ : ∃ R : Int, R = 1 + b % (k : Int) := ⟨_, rfl⟩
  have hR1 : 1 ≤ R ∧ R ≤ k := by
    have := Int.emod_nonneg b (show (k : Int) ≠ 0 by omega)
    have := Int.emod_lt_of_pos b (show 0 < (k : Int) by omega)
    omega
  refine fnR_intro (T := TT) (n := 261) Try.func10 rfl rfl rfl (fun w Z => ?_)
  (repeat (first | refine r_end ?_ | (refine r_op ?_; refine r_pure hT rfl rfl rfl rfl rfl rfl ?_) | refine gi_seq ?_ | refine gi_plain ?_))
  refine r_callX [] [] (GraphOnce n hn ps qs hps hqs) rfl rfl rfl rfl rfl rfl Try.func28 rfl rfl rfl rfl rfl rfl rfl pGm ?_
  rintro r H1 S1 ⟨l, hl, hM, rfl, rfl, rfl⟩
  have hf := hl.few
  have hvl : (vertsL l).length ≤ 2000 := map_vs hf
  have hsn : (mapL l).sn.length ≤ 2000 := by
    have := flat_len (snF_len l) (vertsL l)
    show ((vertsL l).flatMap (snF l)).length ≤ _
    omega
  have hsb : (mapL l).sb.length ≤ 2000000 := by
    have := flat_len (fun v => sbF_len hf v) (vertsL l)
    show ((vertsL l).flatMap (sbF l)).length ≤ _
    omega
  have hwl := wl_nil hl.fl
  have hel : (mapL l).es.length ≤ 10000000 := map_es hf
  refine r_freeze 0 rfl (frz_seO l) ?_
  (repeat (first | refine r_end ?_ | (refine r_op ?_; refine r_pure hT rfl rfl rfl rfl rfl rfl ?_) | refine gi_seq ?_ | refine gi_plain ?_))
  refine r_call (MapF l hf) rfl rfl rfl rfl rfl rfl rfl rfl Try.func15 rfl rfl rfl pMapP ?_
  rintro r S1 ⟨rfl, rfl⟩
  (repeat (first | refine r_end ?_ | (refine r_op ?_; first | refine r_store hT rfl rfl rfl rfl rfl rfl rfl rfl rfl rfl ?_ | refine r_alloc hT rfl rfl rfl rfl rfl rfl rfl rfl rfl ?_) | refine gi_seq ?_))
  refine gi_freeze 1 (L' := (mapL l).vs.map Vt.row) rfl rfl ?_
  refine gi_freeze 2 (L' := (mapL l).es.map Eg.row) rfl rfl ?_
  refine gi_freeze 3 (L' := (mapL l).sb.map Sb.row) rfl rfl ?_
  refine gi_freeze 4 (L' := (mapL l).sn.map Sn.row) rfl rfl ?_
  refine gi_freeze 5 (L' := (mapL l).wl.map nRow) rfl rfl ?_
  refine gi_weak (F' := [(14, .box 0 0), (13, fsL l), (0, u8 n), (3, u8 b), (4, u8 h), (5, u8 c)]) (H' := [hMf (mapL l)]) (S' := []) ⟨rfl, rfl, rfl, rfl, rfl, rfl, trivial⟩ ⟨rfl, trivial⟩ trivial rfl ?_
  (repeat (first | (refine r_op ?_; refine r_pure hT rfl rfl rfl rfl rfl rfl ?_) | refine gi_plain ?_))
  refine r_callX [] [] (Members_ok l (by have := hf.len; omega) h c) rfl rfl rfl rfl rfl rfl Try.func35 rfl rfl rfl rfl rfl rfl rfl pMb ?_
  rintro r H1 S1 ⟨ms, hms, rfl, rfl, rfl⟩
  have hms : ms.length < 1000000 := by have := hf.len; omega
  (repeat (first | refine r_end ?_ | (refine r_op ?_; refine r_pure hT rfl rfl rfl rfl rfl rfl ?_) | refine gi_seq ?_))
  refine gi_thaw 15 rfl ?_
  (repeat (first | refine r_end ?_ | (refine r_op ?_; refine r_pure hT rfl rfl rfl rfl rfl rfl ?_) | refine gi_seq ?_ | refine gi_plain_ne 5 rfl ?_))
  refine gi_turn (d := 16) (y := I (k : Int)) rfl (by rw [wr_i64 (n := n) (by omega) (by omega), rm_pos hn.1, wr_i64 (by omega) (by omega), hk]) ?_
  (repeat (first | (refine r_op ?_; refine r_pure hT rfl rfl rfl rfl rfl rfl ?_) | refine gi_plain ?_))
  refine r_rem (n := R - 1) (p' := (k : Int)) rfl rfl rfl rfl rfl rfl rfl rfl (by omega) (by rw [wr_i64 (n := b) (by omega) (by omega), rm_pos hb.1]; omega) ?_
  (repeat ((refine r_op ?_; refine r_pure hT rfl rfl rfl rfl rfl rfl ?_)))
  refine r_shl (n := 256 * (200 + R)) rfl rfl rfl rfl rfl rfl rfl rfl (by decide) (by rw [wr_i64 (n := 201 + (R - 1)) (by omega) (by omega)]; show wr .i64 ((201 + (R - 1)) * 256) = _; rw [wr_i64 (by omega) (by omega)]; omega) ?_
  (repeat (first | refine r_end ?_ | (refine r_op ?_; refine r_pure hT rfl rfl rfl rfl rfl rfl ?_) | refine gi_seq ?_))
  refine gi_turn (d := 17) (y := I (256 * (200 + R) + 9)) rfl (by rw [wr_i64 (by omega) (by omega)]) ?_
  refine gi_weak (F' := [(17, I (256 * (200 + R) + 9)), (16, I (k : Int)), (15, rsV ms), (14, .box 0 0), (13, fsL l), (3, u8 b), (4, u8 h)]) (H' := [hMf (mapL l)]) (S' := []) ⟨rfl, rfl, rfl, rfl, rfl, rfl, rfl, trivial⟩ ⟨rfl, trivial⟩ trivial rfl ?_
  apply gi_cut (σ := Int) (fun a => [(17, I a), (16, I (k : Int)), (15, rsV ms), (14, .box 0 0), (13, fsL l), (4, u8 h)]) (fun _ => [hMf (mapL l)]) (fun _ => []) (fun a => ∃ s, srcF a (mapL l) = s ∧ SrcG s ∧ s.v ∈ (mapL l).vs) (fun _ => rfl)
  case first =>
    intro fin
    have stay : ∃ s, srcF (256 * (200 + R) + 9) (mapL l) = s ∧ SrcG s ∧ s.v ∈ (mapL l).vs :=
      ⟨_, hM.src_sb hR1.1 (by omega), ⟨rfl, rfl, .inl ⟨R, rfl, rfl⟩⟩, hM.vert.2 (by omega)⟩
    (repeat (first | (refine r_op ?_; first | refine r_pure hT rfl rfl rfl rfl rfl rfl ?_ | refine r_load hT rfl rfl rfl rfl rfl rfl rfl rfl rfl ?_) | refine gi_plain ?_))
    refine r_case (d := 62) rfl (fun c1 => ?_) (fun c1 => ?_)
    · rw [ltB_eq] at c1
      have c1 : 0 < (((mapL l).sn.map Sn.row).length : Int) := of_decide_eq_true c1
      rw [List.length_map] at c1
      (repeat (first | refine r_end ?_ | (refine r_op ?_; refine r_pure hT rfl rfl rfl rfl rfl rfl ?_)))
      refine gi_cond rfl (fun c2 => ?_) (fun c2 => ?_)
      · skip
        refine gi_weak (F' := [(16, I (k : Int)), (15, rsV ms), (14, .box 0 0), (13, fsL l), (3, u8 b), (4, u8 h)]) (H' := [hMf (mapL l)]) (S' := []) ⟨rfl, rfl, rfl, rfl, rfl, rfl, trivial⟩ ⟨rfl, trivial⟩ trivial rfl ?_
        obtain ⟨d, hd⟩ : ∃ d : Nat, (d : Int) = b / 2 := ⟨(b / 2).toNat, by omega⟩
        obtain ⟨i, hi⟩ : ∃ i : Nat, i = d % (mapL l).sn.length := ⟨_, rfl⟩
        have hil : i < (mapL l).sn.length := by rw [hi]; exact Nat.mod_lt _ (by omega)
        obtain ⟨x, hx⟩ : ∃ x, (mapL l).sn[i]? = some x := ⟨_, List.getElem?_eq_getElem hil⟩
        have hxm := List.mem_of_getElem? hx
        obtain ⟨a1, a2, a3, a4, a5, a6⟩ := hM.sn x hxm
        refine gi_drawM [] [(0, .p), (2, .p), (3, .p), (4, .p), (5, .p), (1, .t), (6, .t), (7, .p), (8, .p), (9, .p), (10, .p), (11, .t), (12, .p), (13, .p)] [0, 1, 0, 4, 8, 0, 32, 64, 144, 258, 512, 1024, 2048, 8191] [0, 1, 0, 4, 8, 0, 32, 64, 144, 258, 512, 1024, 2048, 4096] Kt.hm rfl (by kernel_rfl) (fun w1 K => ?_)
        (repeat ((refine r_op ?_; first | refine r_pure hT rfl rfl rfl rfl rfl rfl ?_ | refine r_load hT rfl rfl rfl rfl rfl rfl rfl rfl rfl ?_)))
        refine r_rem (n := (i : Int)) (p' := (((mapL l).sn.length : Nat) : Int)) rfl rfl rfl rfl rfl rfl rfl (by show some (I ((((mapL l).sn.map Sn.row).length : Nat) : Int)) = _; rw [List.length_map]) (by omega) (by
          rw [wr_i64 (n := b) (by omega) (by omega), qt_pos hb.1, wr_i64 (by omega) (by omega), ← hd, rm_pos (by omega), hi]; omega) ?_
        skip
        refine r_thaw 68 rfl ?_
        refine r_idx (row := x.row) hT rfl rfl rfl rfl rfl rfl rfl rfl rfl rfl rfl rfl (nn i) (by simp [hx]) ?_
        (repeat (first | refine r_end ?_ | (refine r_op ?_; first | refine r_pure hT rfl rfl rfl rfl rfl rfl ?_ | refine r_load hT rfl rfl rfl rfl rfl rfl rfl rfl rfl ?_) | refine gi_seq ?_))
        refine fin (x.p + 200) _ _ _ ⟨_, hM.src_sn hxm, ⟨rfl, rfl, .inr ⟨a1, a5⟩⟩, a6⟩ ⟨?_, rfl, rfl, rfl, rfl, rfl, trivial⟩ ⟨rfl, trivial⟩ trivial
        show some (I (wr .i64 (x.p + 200))) = _
        rw [wr_i64 (by omega) (by omega)]
      · (repeat (first | refine gi_seq ?_ | refine gi_skip ?_))
        exact fin _ _ _ _ stay ⟨rfl, rfl, rfl, rfl, rfl, rfl, trivial⟩ ⟨rfl, trivial⟩ trivial
    · (repeat (first | refine r_end ?_ | (refine r_op ?_; first | refine r_pure hT rfl rfl rfl rfl rfl rfl ?_ | refine r_off rfl rfl rfl rfl rfl ?_) | refine gi_seq ?_ | refine gi_skip ?_ | (refine gi_cnd ?_; first | refine gi_true rfl ?_ | refine gi_false rfl ?_)))
      exact fin _ _ _ _ stay ⟨rfl, rfl, rfl, rfl, rfl, rfl, trivial⟩ ⟨rfl, trivial⟩ trivial
  case after =>
    rintro a ⟨s, hs, hsG, hsv⟩
    have hRT := rCast_ok l hf a (by omega) (by omega)
    have hrS := rSource_ok (mapL l) a (by omega) (by omega)
    rw [src_same, hs] at hRT hrS
    have hct : castT (mapL l) s = refTree (mapL l) s.v := if_pos hsG.ok
    rw [hct] at hRT
    have hlt : (refTree (mapL l) s.v).length < 1000000 := tree_lt hf _
    have hTr := tr_of hf hsv
    have hEt := fun (self : Int) (ps : List Pt) (h1 : ps.length < 1000000) (h2 : ∀ p ∈ ps, PtOk p) => Entry_ok l hf ms hms self ps h1 h2 a 7
    unfold REnt at hEt
    simp only [hs, hct] at hEt
    generalize refTree (mapL l) s.v = t at hRT hlt hTr hEt
    have hkd : ∀ x ∈ t, x.v.k = 1 ∨ x.v.k = 2 := fun x hx => verts_kind (hTr.vs x hx)
    (repeat (first | (refine r_op ?_; first | refine r_pure hT rfl rfl rfl rfl rfl rfl ?_ | refine r_load hT rfl rfl rfl rfl rfl rfl rfl rfl rfl ?_) | refine gi_plain ?_))
    refine r_callX [] [] (hRT) rfl rfl rfl rfl rfl rfl Try.func19 rfl rfl rfl rfl rfl rfl rfl pNd ?_
    rintro r H1 S1 ⟨rfl, rfl, rfl⟩
    (repeat (first | refine r_end ?_ | (refine r_op ?_; refine r_pure hT rfl rfl rfl rfl rfl rfl ?_) | refine gi_seq ?_))
    refine gi_freeze 0 (L' := t.map Nd.row) rfl rfl ?_
    refine gi_thaw 18 rfl ?_
    refine gi_weak (F' := [(18, rsNd t), (17, I a), (16, I (k : Int)), (15, rsV ms), (14, .box 0 0), (13, fsL l), (4, u8 h)]) (H' := [hMf (mapL l)]) (S' := []) ⟨rfl, rfl, rfl, rfl, rfl, rfl, rfl, trivial⟩ ⟨rfl, trivial⟩ trivial rfl ?_
    (repeat (first | (refine r_op ?_; first | refine r_pure hT rfl rfl rfl rfl rfl rfl ?_ | refine r_load hT rfl rfl rfl rfl rfl rfl rfl rfl rfl ?_) | refine gi_plain ?_))
    refine r_callX [] [] (rReach_ok t (mapL l) ms hlt (by rw [hwl]; decide) hms hkd) rfl rfl rfl rfl rfl rfl Try.func24 rfl rfl rfl rfl rfl rfl rfl pRch ?_
    rintro r H1 S1 ⟨rfl, rfl, o, rfl, hRo⟩
    rw [hwl] at hRo
    have hol := hRo.lo
    (repeat (first | refine r_end ?_ | (refine r_op ?_; refine r_pure hT rfl rfl rfl rfl rfl rfl ?_) | refine gi_seq ?_))
    refine gi_freeze 0 (L' := o.map nRow) rfl rfl ?_
    refine gi_thaw 19 rfl ?_
    refine gi_weak (F' := [(19, rsN o), (18, rsNd t), (17, I a), (16, I (k : Int)), (15, rsV ms), (14, .box 0 0), (13, fsL l), (4, u8 h)]) (H' := [hMf (mapL l)]) (S' := []) ⟨rfl, rfl, rfl, rfl, rfl, rfl, rfl, rfl, trivial⟩ ⟨rfl, trivial⟩ trivial rfl ?_
    (repeat (first | (refine r_op ?_; first | refine r_pure hT rfl rfl rfl rfl rfl rfl ?_ | refine r_load hT rfl rfl rfl rfl rfl rfl rfl rfl rfl ?_) | refine gi_plain ?_))
    refine r_call (hrS) rfl rfl rfl rfl rfl rfl rfl rfl Try.func17 rfl rfl rfl pSrc ?_
    rintro r S1 ⟨rfl, rfl⟩
    (repeat (first | refine r_end ?_ | (refine r_op ?_; first | refine r_pure hT rfl rfl rfl rfl rfl rfl ?_ | refine r_store hT rfl rfl rfl rfl rfl rfl rfl rfl rfl rfl ?_ | refine r_alloc hT rfl rfl rfl rfl rfl rfl rfl rfl rfl ?_) | refine gi_seq ?_ | refine gi_plain ?_))
    have htl := hTr.pos
    refine r_known (d := 97) (b := false) rfl (by rw [hsG.ok, notB_eq]; rfl) ?_
    (repeat (first | refine r_end ?_ | (refine r_op ?_; refine r_pure hT rfl rfl rfl rfl rfl rfl ?_)))
    refine gi_known (d := 101) (b := false) rfl (by rw [List.length_map, eqB_eq]; exact decide_eq_false (by omega)) ?_
    (repeat (first | refine r_end ?_ | (refine r_op ?_; refine r_pure hT rfl rfl rfl rfl rfl rfl ?_) | refine gi_seq ?_ | refine gi_plain_ne 14 rfl ?_ | refine gi_skip ?_ | (refine gi_cnd ?_; first | refine gi_true rfl ?_ | refine gi_false rfl ?_)))
    refine gi_adopt (e := 3) (sz := 1) 24 rfl ?_
    refine gi_weak (F' := [(24, .sl 0), (21, I s.p), (19, rsN o), (18, rsNd t), (17, I a), (16, I (k : Int)), (15, rsV ms), (14, .box 0 0), (13, fsL l), (4, u8 h)]) (H' := [hMf (mapL l)]) (S' := [eN []]) ⟨rfl, rfl, rfl, rfl, rfl, rfl, rfl, rfl, rfl, rfl, trivial⟩ ⟨rfl, trivial⟩ ⟨rfl, trivial⟩ rfl ?_
    (repeat (first | refine r_end ?_ | (refine r_op ?_; refine r_pure hT rfl rfl rfl rfl rfl rfl ?_) | refine gi_plain ?_ | refine gi_block ?_))
    refine gi_loop (σ := Nat) (fun j => [(25, I (j : Int)), (24, .sl 0), (21, I s.p), (19, rsN o), (18, rsNd t), (17, I a), (16, I (k : Int)), (15, rsV ms), (14, .box 0 0), (13, fsL l), (4, u8 h)]) (fun _ => [hMf (mapL l)]) (fun j => [eN (cntN j [])]) (fun j => j ≤ t.length) (fun j => t.length - j) 0 (Nat.zero_le _) ⟨rfl, rfl, rfl, rfl, rfl, rfl, rfl, rfl, rfl, rfl, rfl, trivial⟩ ⟨rfl, trivial⟩ ⟨rfl, trivial⟩ (fun _ => rfl) (fun j hj next => ?_)
    have hj : j ≤ t.length := hj
    (repeat (first | refine r_end ?_ | (refine r_op ?_; refine r_pure hT rfl rfl rfl rfl rfl rfl ?_) | refine gi_seq ?_ | refine gi_plain ?_))
    refine gi_lt (q := ((t.map Nd.row).length : Int)) rfl (fun h3 => ?_) (fun h3 => ?_)
    · rw [List.length_map] at h3
      have hjl : j < t.length := by omega
      (repeat (first | (refine r_op ?_; first | refine r_pure hT rfl rfl rfl rfl rfl rfl ?_ | refine r_lit hT rfl rfl rfl rfl rfl rfl rfl rfl rfl rfl rfl rfl rfl ?_) | refine gi_seq ?_ | refine gi_plain ?_ | refine gi_skip ?_ | refine gi_block ?_))
      refine r_append hT rfl rfl rfl rfl rfl rfl rfl rfl rfl rfl rfl rfl rfl rfl rfl rfl rfl (by simp only [List.length_cons, List.length_nil, List.length_map, maxLen, cntN_len]; exact ⟨by omega, by show _ * 8 ≤ _; omega⟩) ?_
      (repeat (first | refine r_end ?_ | (refine r_op ?_; refine r_pure hT rfl rfl rfl rfl rfl rfl ?_) | refine gi_plain ?_ | refine gi_inBlock ?_))
      refine next (j + 1) _ _ _ hjl (by omega) ⟨?_, rfl, rfl, rfl, rfl, rfl, rfl, rfl, rfl, rfl, rfl, trivial⟩ ⟨rfl, trivial⟩ ⟨by rw [cntN_zero, eN, List.map_append]; rfl, trivial⟩
      show some (I (wr .i64 ((j : Int) + 1))) = _
      rw [wadd1 (by omega)]
    rw [List.length_map] at h3
    have hjl : j = t.length := by omega
    subst hjl
    clear next
    (repeat (first | refine gi_seq ?_ | refine gi_exit rfl ?_))
    refine gi_weak (F' := [(24, .sl 0), (21, I s.p), (19, rsN o), (18, rsNd t), (17, I a), (16, I (k : Int)), (15, rsV ms), (14, .box 0 0), (13, fsL l), (4, u8 h)]) (H' := [hMf (mapL l)]) (S' := [eN (cntN t.length [])]) ⟨rfl, rfl, rfl, rfl, rfl, rfl, rfl, rfl, rfl, rfl, trivial⟩ ⟨rfl, trivial⟩ ⟨rfl, trivial⟩ rfl ?_
    (repeat (first | refine r_end ?_ | (refine r_op ?_; refine r_pure hT rfl rfl rfl rfl rfl rfl ?_) | refine gi_plain ?_ | refine gi_block ?_))
    refine gi_loop (σ := Nat × List Nat) (fun q => [(26, I ((q.1 : Int) + 1)), (24, .sl 0), (21, I s.p), (19, rsN o), (18, rsNd t), (17, I a), (16, I (k : Int)), (15, rsV ms), (14, .box 0 0), (13, fsL l), (4, u8 h)]) (fun _ => [hMf (mapL l)]) (fun q => [eN (cntN t.length q.2)]) (fun q => q.1 ≤ k ∧ PL t o q.1 q.2) (fun q => k - q.1) (0, []) ⟨Nat.zero_le _, PL.zero t o⟩ ⟨rfl, rfl, rfl, rfl, rfl, rfl, rfl, rfl, rfl, rfl, rfl, trivial⟩ ⟨rfl, trivial⟩ ⟨rfl, trivial⟩ (fun _ => rfl) (fun q hq next => ?_)
    obtain ⟨j, L⟩ := q
    obtain ⟨hj, hL⟩ := hq
    simp only at hj hL
    (repeat (first | refine r_end ?_ | (refine r_op ?_; refine r_pure hT rfl rfl rfl rfl rfl rfl ?_) | refine gi_seq ?_ | refine gi_plain ?_))
    refine gi_le rfl (fun h3 => ?_) (fun h3 => ?_)
    · simp only at h3
      have hjk : j < k := by omega
      obtain ⟨x, hx, hlk, hst⟩ := hM.at_ (r := j) (by omega)
      have hxl : x.lk.length < 1000000 := by
        have := hf.lk x (List.mem_of_getElem? hx)
        omega
      have hpo := Ports_ok l j (by omega) x hx hxl 7 h
      have hps := psG_of hxl (r := (j : Int) + 1) (by omega) hlk hst (bitF h ((j : Int) + 1)) 7
      generalize x.lk.map (ptF (bitF h ((j : Int) + 1)) 7) = ps at hpo hps
      have hE := hEt ((j : Int) + 1) ps hps.len (fun p hp => (hps.po p hp).ok)
      have hlaw := fun (rr : AV) => once_law hM hwl (show 1 ≤ (j : Int) + 1 ∧ (j : Int) + 1 ≤ 6 by omega) hps hsG hTr hRo (rr := rr)
      have hpE : ∀ r H1 S1, (EntR (mapL l) ms ps 7 s t (entP s t ((j : Int) + 1)) r ∧ H1 = [] ∧ S1 = []) → stA r = true ∧ StH H1 ∧ StS S1 := by
        rintro r H S ⟨hr, rfl, rfl⟩
        obtain ⟨p, b, g', u, l, n, rfl⟩ := entR_st _ _ hr
        refine ⟨?_, StH.nil, stS_nil⟩
        show ((true && (true && (true && (true && (stLL (l.map Ot.row) && true))))) && (true && true)) = true
        rw [stLL_Ot]
        rfl
      have on : ∀ L', PL t o (j + 1) L' → ∀ F1 H1 S1, SubF [(26, I (wr .i64 ((j : Int) + 1 + 1))), (24, .sl 0), (21, I s.p), (19, rsN o), (18, rsNd t), (17, I a), (16, I (k : Int)), (15, rsV ms), (14, .box 0 0), (13, fsL l), (4, u8 h)] F1 → SubH [hMf (mapL l)] H1 → SubS [eN (cntN t.length L')] S1 → GI _ _ F1 H1 S1 := fun L' hL' F1 H1 S1 hF hH hS => by
        refine next (j + 1, L') F1 H1 S1 ⟨hjk, hL'⟩ (by simp only; omega) ?_ hH hS
        rw [wr_i64 (by omega) (by omega), show (j : Int) + 1 + 1 = ((j + 1 : Nat) : Int) + 1 by omega] at hF
        exact hF
      clear next hEt hRT
      (repeat (first | refine gi_seq ?_ | refine gi_skip ?_ | refine gi_block ?_))
      refine gi_weak (F' := [(26, I ((j : Int) + 1)), (24, .sl 0), (21, I s.p), (19, rsN o), (18, rsNd t), (17, I a), (16, I (k : Int)), (15, rsV ms), (14, .box 0 0), (13, fsL l), (4, u8 h)]) (H' := [hMf (mapL l)]) (S' := [eN (cntN t.length L)]) ⟨rfl, rfl, rfl, rfl, rfl, rfl, rfl, rfl, rfl, rfl, rfl, trivial⟩ ⟨rfl, trivial⟩ ⟨rfl, trivial⟩ rfl ?_
      apply gi_cut (σ := Int × Int × Int × Int × List Ot × Int) (fun q => [(28, I q.2.2.2.2.2), (27, .box 1 0), (26, I ((j : Int) + 1)), (24, .sl 0), (21, I s.p), (19, rsN o), (18, rsNd t), (17, I a), (16, I (k : Int)), (15, rsV ms), (14, .box 0 0), (13, fsL l), (4, u8 h)]) (fun q => [hMf (mapL l), hEt q.1 q.2.1 q.2.2.1 q.2.2.2.1 (fsOt q.2.2.2.2.1)]) (fun _ => [eN (cntN t.length L)]) (fun q => Otr t o ((j : Int) + 1) (bitF h ((j : Int) + 1)) s.p q.2.2.2.2.1 q.2.2.2.2.2) (fun _ => rfl)
      case first =>
        intro fin
        refine gi_drawT 1 false 15 [13] [(1, .p), (2, .p), (3, .p), (4, .p), (5, .p), (7, .p), (0, .t)] (.alt [(6, .o)] (.alt [(8, .o), (9, .p), (10, .p), (11, .p), (12, .o), (13, .l), (14, .p)] .it [(12, .o), (8, .o), (9, .p), (10, .p), (11, .p), (13, .l), (14, .p)] .it) [(12, .o), (6, .o), (8, .o), (9, .p), (10, .p), (11, .p), (13, .l), (14, .p)] .it) Kt.hm rfl (by kernel_rfl) (fun w1 K => ?_)
        (repeat ((refine r_op ?_; first | refine r_pure hT rfl rfl rfl rfl rfl rfl ?_ | refine r_load hT rfl rfl rfl rfl rfl rfl rfl rfl rfl ?_)))
        refine r_alt ?_ ?_
        · refine r_callXz [] [] (hpo) rfl rfl rfl rfl rfl rfl Try.func37 rfl rfl rfl rfl rfl rfl rfl rfl rfl rfl rfl pPts ?_
          rintro r H1 S1 ⟨rfl, rfl, rfl⟩
          skip
          refine r_alt ?_ ?_
          · refine r_callXz [] [] (hE) rfl rfl rfl rfl rfl rfl Try.func36 rfl rfl rfl rfl rfl rfl rfl rfl rfl rfl rfl hpE ?_
            rintro r H1 S1 ⟨hr, rfl, rfl⟩
            obtain ⟨pf, bt, g', up, outs, e, rfl, hO⟩ := hlaw r hr
            (repeat (first | refine r_end ?_ | (refine r_op ?_; first | refine r_pure hT rfl rfl rfl rfl rfl rfl ?_ | refine r_store hT rfl rfl rfl rfl rfl rfl rfl rfl rfl rfl ?_ | refine r_alloc hT rfl rfl rfl rfl rfl rfl rfl rfl rfl ?_) | refine gi_seq ?_))
            exact fin (pf, bt, g', up, outs, e) _ _ _ hO ⟨rfl, rfl, rfl, rfl, rfl, rfl, rfl, rfl, rfl, rfl, rfl, rfl, rfl, trivial⟩ ⟨rfl, rfl, trivial⟩ ⟨rfl, trivial⟩
          · (repeat ((refine r_op ?_; refine r_alloc hT rfl rfl rfl rfl rfl rfl rfl rfl rfl ?_)))
            refine r_callXz [] [] (hE) rfl rfl rfl rfl rfl rfl Try.func36 rfl rfl rfl rfl rfl rfl rfl rfl rfl rfl rfl hpE ?_
            rintro r H1 S1 ⟨hr, rfl, rfl⟩
            obtain ⟨pf, bt, g', up, outs, e, rfl, hO⟩ := hlaw r hr
            (repeat (first | refine r_end ?_ | (refine r_op ?_; first | refine r_pure hT rfl rfl rfl rfl rfl rfl ?_ | refine r_store hT rfl rfl rfl rfl rfl rfl rfl rfl rfl rfl ?_) | refine gi_seq ?_))
            exact fin (pf, bt, g', up, outs, e) _ _ _ hO ⟨rfl, rfl, rfl, rfl, rfl, rfl, rfl, rfl, rfl, rfl, rfl, rfl, rfl, trivial⟩ ⟨rfl, rfl, trivial⟩ ⟨rfl, trivial⟩
        · (repeat ((refine r_op ?_; refine r_alloc hT rfl rfl rfl rfl rfl rfl rfl rfl rfl ?_)))
          refine r_callXz [] [] (hpo) rfl rfl rfl rfl rfl rfl Try.func37 rfl rfl rfl rfl rfl rfl rfl rfl rfl rfl rfl pPts ?_
          rintro r H1 S1 ⟨rfl, rfl, rfl⟩
          skip
          refine r_callXz [] [] (hE) rfl rfl rfl rfl rfl rfl Try.func36 rfl rfl rfl rfl rfl rfl rfl rfl rfl rfl rfl hpE ?_
          rintro r H1 S1 ⟨hr, rfl, rfl⟩
          obtain ⟨pf, bt, g', up, outs, e, rfl, hO⟩ := hlaw r hr
          (repeat (first | refine r_end ?_ | (refine r_op ?_; first | refine r_pure hT rfl rfl rfl rfl rfl rfl ?_ | refine r_store hT rfl rfl rfl rfl rfl rfl rfl rfl rfl rfl ?_) | refine gi_seq ?_))
          exact fin (pf, bt, g', up, outs, e) _ _ _ hO ⟨rfl, rfl, rfl, rfl, rfl, rfl, rfl, rfl, rfl, rfl, rfl, rfl, rfl, trivial⟩ ⟨rfl, rfl, trivial⟩ ⟨rfl, trivial⟩
      case after =>
        rintro ⟨pf, bt, g', up, outs, e⟩ hO
        have hO : Otr t o ((j : Int) + 1) (bitF h ((j : Int) + 1)) s.p outs e := hO
        have hr6 : 1 ≤ (j : Int) + 1 ∧ (j : Int) + 1 ≤ 6 := by omega
        have hout := hO.len hr6
        have hL' := hL.step hM hTr rfl hr6 hO
        have hmt := fun (x : Ot) (hx : x ∈ outs) (ed : Eg) (hed : ed ∈ (mapL l).es) => hO.match_ hM hTr hr6 hx hed
        clear hpo hE hlaw hpE hps
        (repeat (first | (refine r_op ?_; refine r_pure hT rfl rfl rfl rfl rfl rfl ?_) | refine gi_plain ?_))
        refine r_call (Place_ok t ⟨1, (j : Int) + 1⟩ hlt) rfl rfl rfl rfl rfl rfl rfl rfl Try.func38 rfl rfl rfl pI ?_
        rintro r S1 ⟨rfl, rfl⟩
        (repeat (first | refine r_end ?_ | (refine r_op ?_; refine r_pure hT rfl rfl rfl rfl rfl rfl ?_) | refine gi_seq ?_))
        refine gi_weak (F' := [(28, I e), (29, I (placeI (placeL t ⟨1, (j : Int) + 1⟩))), (27, .box 1 0), (26, I ((j : Int) + 1)), (24, .sl 0), (21, I s.p), (19, rsN o), (18, rsNd t), (17, I a), (16, I (k : Int)), (15, rsV ms), (14, .box 0 0), (13, fsL l), (4, u8 h)]) (H' := [hMf (mapL l), hEt pf bt g' up (fsOt outs)]) (S' := [eN (cntN t.length L)]) ⟨rfl, rfl, rfl, rfl, rfl, rfl, rfl, rfl, rfl, rfl, rfl, rfl, rfl, rfl, trivial⟩ ⟨rfl, rfl, trivial⟩ ⟨rfl, trivial⟩ rfl ?_
        (repeat (first | (refine r_op ?_; refine r_pure hT rfl rfl rfl rfl rfl rfl ?_) | refine gi_plain ?_))
        refine r_call (Num_ok e) rfl rfl rfl rfl rfl rfl rfl rfl Try.func39 rfl rfl rfl pI ?_
        rintro r S1 ⟨rfl, rfl⟩
        (repeat (first | refine r_end ?_ | (refine r_op ?_; refine r_pure hT rfl rfl rfl rfl rfl rfl ?_)))
        refine gi_known (d := 137) (b := false) rfl (by
          rcases hO with ⟨hp, _, rfl⟩ | ⟨a', hp, rfl, _⟩
          · rw [hp, notB_eq, beqB_eq, eqB_eq, leB_eq]; rfl
          · rw [hp, notB_eq, beqB_eq, eqB_eq, leB_eq, decide_eq_true (show (0 : Int) ≤ placeI (some a') by show (0 : Int) ≤ (a' : Int); omega)]; rfl) ?_
        (repeat (first | refine r_end ?_ | (refine r_op ?_; refine r_pure hT rfl rfl rfl rfl rfl rfl ?_) | refine gi_seq ?_ | refine gi_plain_ne 27 rfl ?_ | refine gi_skip ?_ | refine gi_block ?_ | (refine gi_cnd ?_; first | refine gi_true rfl ?_ | refine gi_false rfl ?_)))
        refine gi_weak (F' := [(31, I 0), (30, I 0), (29, I (placeI (placeL t ⟨1, (j : Int) + 1⟩))), (27, .box 1 0), (26, I ((j : Int) + 1)), (24, .sl 0), (21, I s.p), (19, rsN o), (18, rsNd t), (17, I a), (16, I (k : Int)), (15, rsV ms), (14, .box 0 0), (13, fsL l), (4, u8 h)]) (H' := [hMf (mapL l), hEt pf bt g' up (fsOt outs)]) (S' := [eN (cntN t.length L)]) ⟨rfl, rfl, rfl, rfl, rfl, rfl, rfl, rfl, rfl, rfl, rfl, rfl, rfl, rfl, rfl, trivial⟩ ⟨rfl, rfl, trivial⟩ ⟨rfl, trivial⟩ rfl ?_
        refine gi_loop (σ := Nat) (fun i => [(31, I (i : Int)), (30, I (((outs.take i).filter (isS ((j : Int) + 1))).length : Int)), (29, I (placeI (placeL t ⟨1, (j : Int) + 1⟩))), (27, .box 1 0), (26, I ((j : Int) + 1)), (24, .sl 0), (21, I s.p), (19, rsN o), (18, rsNd t), (17, I a), (16, I (k : Int)), (15, rsV ms), (14, .box 0 0), (13, fsL l), (4, u8 h)]) (fun _ => [hMf (mapL l), hEt pf bt g' up (fsOt outs)]) (fun i => [eN (cntN t.length (L ++ (outs.take i).flatMap (hitX t (mapL l).es ((j : Int) + 1))))]) (fun i => i ≤ outs.length) (fun i => outs.length - i) 0 (Nat.zero_le _) ⟨rfl, rfl, rfl, rfl, rfl, rfl, rfl, rfl, rfl, rfl, rfl, rfl, rfl, rfl, rfl, trivial⟩ ⟨rfl, rfl, trivial⟩ ⟨by rw [List.take_zero, List.flatMap_nil, List.append_nil], trivial⟩ (fun _ => rfl) (fun i hi next => ?_)
        have hi : i ≤ outs.length := hi
        (repeat (first | refine r_end ?_ | (refine r_op ?_; first | refine r_pure hT rfl rfl rfl rfl rfl rfl ?_ | refine r_load hT rfl rfl rfl rfl rfl rfl rfl rfl rfl ?_) | refine gi_seq ?_ | refine gi_plain ?_))
        refine gi_lt (q := ((outs.map Ot.row).length : Int)) rfl (fun h4 => ?_) (fun h4 => ?_)
        · rw [List.length_map] at h4
          have hil : i < outs.length := by omega
          obtain ⟨x, hx⟩ : ∃ x, outs[i]? = some x := ⟨_, List.getElem?_eq_getElem hil⟩
          have hpart := fun (d : Nat) (ed : Eg) (hed : (mapL l).es[d]? = some ed) (c : Nat) => part_count hL'.nd hx hed c
          have hmx := hmt x (List.mem_of_getElem? hx)
          have hst := flat_take (hitX t (mapL l).es ((j : Int) + 1)) hx
          have hcs : (((outs.take (i + 1)).filter (isS ((j : Int) + 1))).length : Int) = ((outs.take i).filter (isS ((j : Int) + 1))).length + (if x.a / 256 = 200 + ((j : Int) + 1) then 1 else 0) := by
            rw [take_snoc hx, List.filter_append, List.length_append]
            have : (List.filter (isS ((j : Int) + 1)) [x]).length = if x.a / 256 = 200 + ((j : Int) + 1) then 1 else 0 := by
              by_cases hc : x.a / 256 = 200 + ((j : Int) + 1)
              · rw [if_pos hc, List.filter_cons, if_pos (show isS ((j : Int) + 1) x = true from decide_eq_true hc)]; rfl
              · rw [if_neg hc, List.filter_cons, if_neg (show ¬ isS ((j : Int) + 1) x = true from fun hh => hc (of_decide_eq_true hh))]; rfl
            rw [this]
            split <;> simp
          have hcl : ((outs.take i).filter (isS ((j : Int) + 1))).length ≤ 60000 := by
            have := List.length_filter_le (isS ((j : Int) + 1)) (outs.take i)
            rw [List.length_take] at this
            omega
          obtain ⟨L1, hL1⟩ : ∃ L1, L1 = L ++ (outs.take i).flatMap (hitX t (mapL l).es ((j : Int) + 1)) := ⟨_, rfl⟩
          have hst : L ++ (outs.take (i + 1)).flatMap (hitX t (mapL l).es ((j : Int) + 1)) = L1 ++ (mapL l).es.flatMap (hitF t ((j : Int) + 1) x.a) := by rw [hst, hL1, List.append_assoc]; rfl
          have hpart : ∀ (d : Nat) (ed : Eg), (mapL l).es[d]? = some ed → ∀ c, (L1 ++ ((mapL l).es.take d).flatMap (hitF t ((j : Int) + 1) x.a)).count c ≤ 1 := by rw [hL1]; exact hpart
          rw [← hL1]
          have on4 : ∀ F1 H1 S1, SubF [(31, I (wr .i64 ((i : Int) + 1))), (30, I (((outs.take (i + 1)).filter (isS ((j : Int) + 1))).length : Int)), (29, I (placeI (placeL t ⟨1, (j : Int) + 1⟩))), (27, .box 1 0), (26, I ((j : Int) + 1)), (24, .sl 0), (21, I s.p), (19, rsN o), (18, rsNd t), (17, I a), (16, I (k : Int)), (15, rsV ms), (14, .box 0 0), (13, fsL l), (4, u8 h)] F1 → SubH [hMf (mapL l), hEt pf bt g' up (fsOt outs)] H1 → SubS [eN (cntN t.length (L1 ++ (mapL l).es.flatMap (hitF t ((j : Int) + 1) x.a)))] S1 → GI _ _ F1 H1 S1 := fun F1 H1 S1 hF hH hS => by
            refine next (i + 1) F1 H1 S1 hil (by omega) ?_ hH ?_
            · rw [wadd1 (by omega)] at hF; exact hF
            · rw [hst]; exact hS
          clear next
          apply gi_cut (σ := Unit) (fun _ => [(32, I x.a), (31, I (i : Int)), (30, I (((outs.take (i + 1)).filter (isS ((j : Int) + 1))).length : Int)), (29, I (placeI (placeL t ⟨1, (j : Int) + 1⟩))), (27, .box 1 0), (26, I ((j : Int) + 1)), (24, .sl 0), (21, I s.p), (19, rsN o), (18, rsNd t), (17, I a), (16, I (k : Int)), (15, rsV ms), (14, .box 0 0), (13, fsL l), (4, u8 h)]) (fun _ => [hMf (mapL l), hEt pf bt g' up (fsOt outs)]) (fun _ => [eN (cntN t.length L1)]) (fun _ => True) (fun _ => rfl)
          case first =>
            intro fin
            (repeat (first | (refine r_op ?_; first | refine r_pure hT rfl rfl rfl rfl rfl rfl ?_ | refine r_load hT rfl rfl rfl rfl rfl rfl rfl rfl rfl ?_) | refine gi_seq ?_ | refine gi_plain ?_ | refine gi_skip ?_ | refine gi_block ?_))
            refine r_thaw 146 rfl ?_
            refine r_idx (row := x.row) hT rfl rfl rfl rfl rfl rfl rfl rfl rfl rfl rfl rfl (nn i) (by simp [hx]) ?_
            (repeat (first | refine r_end ?_ | (refine r_op ?_; first | refine r_pure hT rfl rfl rfl rfl rfl rfl ?_ | refine r_load hT rfl rfl rfl rfl rfl rfl rfl rfl rfl ?_) | refine gi_seq ?_ | refine gi_plain ?_))
            refine r_shr (n := x.a / 256) rfl rfl rfl rfl rfl rfl rfl rfl (by decide) (by show x.a.fdiv 256 = x.a / 256; rw [Int.fdiv_eq_ediv_of_nonneg _ (by decide)]) ?_
            (repeat (first | refine r_end ?_ | (refine r_op ?_; refine r_pure hT rfl rfl rfl rfl rfl rfl ?_)))
            refine gi_eq (p := x.a / 256) (q := wr .i64 (200 + ((j : Int) + 1))) rfl (fun c1 => ?_) (fun c1 => ?_)
            · rw [wr_i64 (by omega) (by omega)] at c1
              (repeat (first | refine r_end ?_ | (refine r_op ?_; refine r_pure hT rfl rfl rfl rfl rfl rfl ?_) | refine gi_seq ?_ | refine gi_plain_ne 32 rfl ?_))
              refine fin () _ _ _ trivial ⟨rfl, rfl, ?_, rfl, rfl, rfl, rfl, rfl, rfl, rfl, rfl, rfl, rfl, rfl, rfl, rfl, trivial⟩ ⟨rfl, rfl, trivial⟩ ⟨rfl, trivial⟩
              show some (I (wr .i64 ((((outs.take i).filter (isS ((j : Int) + 1))).length : Int) + 1))) = some (I _)
              rw [hcs, if_pos c1, wr_i64 (by omega) (by omega)]
            · rw [wr_i64 (by omega) (by omega)] at c1
              (repeat (first | refine gi_seq ?_ | refine gi_skip ?_))
              refine fin () _ _ _ trivial ⟨rfl, rfl, ?_, rfl, rfl, rfl, rfl, rfl, rfl, rfl, rfl, rfl, rfl, rfl, rfl, rfl, trivial⟩ ⟨rfl, rfl, trivial⟩ ⟨rfl, trivial⟩
              show some (I (((outs.take i).filter (isS ((j : Int) + 1))).length : Int)) = some (I _)
              rw [hcs, if_neg c1, Int.add_zero]
          case after =>
            intro _ _
            clear hcs hcl
            generalize ((outs.take (i + 1)).filter (isS ((j : Int) + 1))).length = cc at on4 ⊢
            (repeat (first | refine r_end ?_ | (refine r_op ?_; refine r_pure hT rfl rfl rfl rfl rfl rfl ?_) | refine gi_plain ?_ | refine gi_block ?_))
            refine gi_loop (σ := Nat) (fun d => [(33, I (d : Int)), (32, I x.a), (31, I (i : Int)), (30, I (cc : Int)), (29, I (placeI (placeL t ⟨1, (j : Int) + 1⟩))), (27, .box 1 0), (26, I ((j : Int) + 1)), (24, .sl 0), (21, I s.p), (19, rsN o), (18, rsNd t), (17, I a), (16, I (k : Int)), (15, rsV ms), (14, .box 0 0), (13, fsL l), (4, u8 h)]) (fun _ => [hMf (mapL l), hEt pf bt g' up (fsOt outs)]) (fun d => [eN (cntN t.length (L1 ++ ((mapL l).es.take d).flatMap (hitF t ((j : Int) + 1) x.a)))]) (fun d => d ≤ (mapL l).es.length) (fun d => (mapL l).es.length - d) 0 (Nat.zero_le _) ⟨rfl, rfl, rfl, rfl, rfl, rfl, rfl, rfl, rfl, rfl, rfl, rfl, rfl, rfl, rfl, rfl, rfl, trivial⟩ ⟨rfl, rfl, trivial⟩ ⟨by rw [List.take_zero, List.flatMap_nil, List.append_nil], trivial⟩ (fun _ => rfl) (fun d hd next => ?_)
            have hd : d ≤ (mapL l).es.length := hd
            (repeat (first | refine r_end ?_ | (refine r_op ?_; first | refine r_pure hT rfl rfl rfl rfl rfl rfl ?_ | refine r_load hT rfl rfl rfl rfl rfl rfl rfl rfl rfl ?_) | refine gi_seq ?_ | refine gi_plain ?_))
            refine gi_lt (q := (((mapL l).es.map Eg.row).length : Int)) rfl (fun h5 => ?_) (fun h5 => ?_)
            · rw [List.length_map] at h5
              have hdl : d < (mapL l).es.length := by omega
              obtain ⟨ed, hed⟩ : ∃ x, (mapL l).es[d]? = some x := ⟨_, List.getElem?_eq_getElem hdl⟩
              have hst6 := flat_take (hitF t ((j : Int) + 1) x.a) hed
              have hcnt := hpart d ed hed
              have hme := hmx ed (List.mem_of_getElem? hed)
              obtain ⟨M, hM0⟩ : ∃ M, M = L1 ++ ((mapL l).es.take d).flatMap (hitF t ((j : Int) + 1) x.a) := ⟨_, rfl⟩
              rw [← hM0] at hcnt ⊢
              have on6 : ∀ M', M ++ hitF t ((j : Int) + 1) x.a ed = M' → ∀ F1 H1 S1, SubF [(33, I (wr .i64 ((d : Int) + 1))), (32, I x.a), (31, I (i : Int)), (30, I (cc : Int)), (29, I (placeI (placeL t ⟨1, (j : Int) + 1⟩))), (27, .box 1 0), (26, I ((j : Int) + 1)), (24, .sl 0), (21, I s.p), (19, rsN o), (18, rsNd t), (17, I a), (16, I (k : Int)), (15, rsV ms), (14, .box 0 0), (13, fsL l), (4, u8 h)] F1 → SubH [hMf (mapL l), hEt pf bt g' up (fsOt outs)] H1 → SubS [eN (cntN t.length M')] S1 → GI _ _ F1 H1 S1 := fun M' hM' F1 H1 S1 hF hH hS => by
                refine next (d + 1) F1 H1 S1 hdl (by omega) ?_ hH ?_
                · rw [wadd1 (by omega)] at hF; exact hF
                · rw [hst6, ← List.append_assoc, ← hM0, hM']; exact hS
              clear next hpart on4 on
              have hh : hitF t ((j : Int) + 1) x.a ed = hitF t ((j : Int) + 1) x.a ed := rfl
              conv at hh => rhs; unfold hitF mtF
              (repeat (first | (refine r_op ?_; first | refine r_pure hT rfl rfl rfl rfl rfl rfl ?_ | refine r_load hT rfl rfl rfl rfl rfl rfl rfl rfl rfl ?_) | refine gi_seq ?_ | refine gi_plain ?_ | refine gi_skip ?_ | refine gi_block ?_))
              refine r_thaw 166 rfl ?_
              refine r_idx (row := ed.row) hT rfl rfl rfl rfl rfl rfl rfl rfl rfl rfl rfl rfl (nn d) (by simp [hed]) ?_
              (repeat ((refine r_op ?_; first | refine r_pure hT rfl rfl rfl rfl rfl rfl ?_ | refine r_load hT rfl rfl rfl rfl rfl rfl rfl rfl rfl ?_)))
              refine r_eqT _ rfl rfl rfl rfl rfl rfl rfl rfl rfl y_flat_Vt ?_
              (repeat ((refine r_op ?_; refine r_pure hT rfl rfl rfl rfl rfl rfl ?_)))
              refine r_case (d := 174) rfl (fun c1 => ?_) (fun c1 => ?_)
              · have c1 : decide (ed.f = ⟨1, ((j : Int) + 1)⟩) = true := by rw [← veq_eq]; exact c1
                rw [c1] at hh
                (repeat ((refine r_op ?_; first | refine r_pure hT rfl rfl rfl rfl rfl rfl ?_ | refine r_load hT rfl rfl rfl rfl rfl rfl rfl rfl rfl ?_)))
                refine r_thaw 176 rfl ?_
                refine r_idx (row := ed.row) hT rfl rfl rfl rfl rfl rfl rfl rfl rfl rfl rfl rfl (nn d) (by simp [hed]) ?_
                (repeat ((refine r_op ?_; first | refine r_pure hT rfl rfl rfl rfl rfl rfl ?_ | refine r_load hT rfl rfl rfl rfl rfl rfl rfl rfl rfl ?_)))
                refine r_case (d := 184) rfl (fun c2 => ?_) (fun c2 => ?_)
                · rw [c2] at hh
                  (repeat ((refine r_op ?_; first | refine r_pure hT rfl rfl rfl rfl rfl rfl ?_ | refine r_load hT rfl rfl rfl rfl rfl rfl rfl rfl rfl ?_)))
                  refine r_thaw 186 rfl ?_
                  refine r_idx (row := ed.row) hT rfl rfl rfl rfl rfl rfl rfl rfl rfl rfl rfl rfl (nn d) (by simp [hed]) ?_
                  (repeat (first | refine r_end ?_ | (refine r_op ?_; first | refine r_pure hT rfl rfl rfl rfl rfl rfl ?_ | refine r_load hT rfl rfl rfl rfl rfl rfl rfl rfl rfl ?_)))
                  refine gi_cond rfl (fun c3 => ?_) (fun c3 => ?_)
                  · rw [c3] at hh
                    have hh : hitF t ((j : Int) + 1) x.a ed = (placeL t ed.t).toList := hh
                    rw [eqB_eq] at c2 c3
                    obtain ⟨i', _, m, _, _, hp, _, hm, _⟩ := hme (of_decide_eq_true c1) (of_decide_eq_true c2) (of_decide_eq_true c3)
                    rw [hp] at hh
                    have hh : hitF t ((j : Int) + 1) x.a ed = [i'] := hh
                    have hil' : i' < t.length := (List.getElem?_eq_some_iff.1 hm).1
                    have hci := hcnt i'
                    have hat : ((cntN t.length M).map nRow)[i']? = some (nRow (M.count i' : Int)) := by rw [List.getElem?_map, cntN_at _ hil']; rfl
                    (repeat (first | (refine r_op ?_; first | refine r_pure hT rfl rfl rfl rfl rfl rfl ?_ | refine r_load hT rfl rfl rfl rfl rfl rfl rfl rfl rfl ?_) | refine gi_plain ?_))
                    refine r_thaw 197 rfl ?_
                    refine r_idx (row := ed.row) hT rfl rfl rfl rfl rfl rfl rfl rfl rfl rfl rfl rfl (nn d) (by simp [hed]) ?_
                    (repeat ((refine r_op ?_; first | refine r_pure hT rfl rfl rfl rfl rfl rfl ?_ | refine r_load hT rfl rfl rfl rfl rfl rfl rfl rfl rfl ?_)))
                    refine r_call (Place_ok t ed.t hlt) rfl rfl rfl rfl rfl rfl rfl rfl Try.func38 rfl rfl rfl pI ?_
                    rintro r S1 ⟨rfl, rfl⟩
                    rw [hp]
                    skip
                    refine r_turn (d := 202) (y := I (i' : Int)) rfl rfl ?_
                    refine r_idxS hT rfl rfl rfl rfl rfl rfl rfl rfl rfl rfl rfl rfl rfl (nn i') (by show ((i' : Nat) : Int).toNat < ((cntN t.length M).map nRow).length; rw [List.length_map, cntN_len]; exact hil') ?_
                    skip
                    refine r_loadS (row := nRow (M.count i' : Int)) hT rfl rfl rfl rfl rfl rfl rfl rfl hat rfl rfl rfl ?_
                    (repeat ((refine r_op ?_; refine r_pure hT rfl rfl rfl rfl rfl rfl ?_)))
                    refine r_idxS hT rfl rfl rfl rfl rfl rfl rfl rfl rfl rfl rfl rfl rfl (nn i') (by show ((i' : Nat) : Int).toNat < ((cntN t.length M).map nRow).length; rw [List.length_map, cntN_len]; exact hil') ?_
                    skip
                    refine r_storeS (row := nRow (M.count i' : Int)) hT rfl rfl rfl rfl rfl rfl rfl rfl rfl rfl rfl rfl rfl hat ?_
                    (repeat (first | refine r_end ?_ | (refine r_op ?_; refine r_pure hT rfl rfl rfl rfl rfl rfl ?_) | refine gi_plain ?_ | refine gi_inBlock ?_))
                    refine on6 (M ++ [i']) (by rw [hh]) _ _ _ ⟨rfl, rfl, rfl, rfl, rfl, rfl, rfl, rfl, rfl, rfl, rfl, rfl, rfl, rfl, rfl, rfl, rfl, trivial⟩ ⟨rfl, rfl, trivial⟩ ⟨?_, trivial⟩
                    show eN (cntN t.length (M ++ [i'])) = some (⟨_, _, ((cntN t.length M).map nRow).set ((i' : Nat) : Int).toNat (nRow (wr .i64 ((M.count i' : Int) + 1))), _⟩ : SE)
                    rw [cntN_add _ hil', wr_i64 (by omega) (by omega), eN, List.map_set]
                    rfl
                  · rw [c3] at hh
                    have hh : hitF t ((j : Int) + 1) x.a ed = [] := hh
                    (repeat (first | refine r_end ?_ | (refine r_op ?_; refine r_pure hT rfl rfl rfl rfl rfl rfl ?_) | refine gi_plain ?_ | refine gi_skip ?_ | refine gi_inBlock ?_))
                    exact on6 M (by rw [hh, List.append_nil]) _ _ _ ⟨rfl, rfl, rfl, rfl, rfl, rfl, rfl, rfl, rfl, rfl, rfl, rfl, rfl, rfl, rfl, rfl, rfl, trivial⟩ ⟨rfl, rfl, trivial⟩ ⟨rfl, trivial⟩
                · rw [c2] at hh
                  have hh : hitF t ((j : Int) + 1) x.a ed = [] := hh
                  (repeat (first | refine r_end ?_ | (refine r_op ?_; first | refine r_pure hT rfl rfl rfl rfl rfl rfl ?_ | refine r_off rfl rfl rfl rfl rfl ?_) | refine gi_plain ?_ | refine gi_skip ?_ | refine gi_inBlock ?_ | (refine gi_cnd ?_; first | refine gi_true rfl ?_ | refine gi_false rfl ?_)))
                  exact on6 M (by rw [hh, List.append_nil]) _ _ _ ⟨rfl, rfl, rfl, rfl, rfl, rfl, rfl, rfl, rfl, rfl, rfl, rfl, rfl, rfl, rfl, rfl, rfl, trivial⟩ ⟨rfl, rfl, trivial⟩ ⟨rfl, trivial⟩
              · have c1 : decide (ed.f = ⟨1, ((j : Int) + 1)⟩) = false := by rw [← veq_eq]; exact c1
                rw [c1] at hh
                have hh : hitF t ((j : Int) + 1) x.a ed = [] := hh
                (repeat (first | refine r_end ?_ | (refine r_op ?_; first | refine r_pure hT rfl rfl rfl rfl rfl rfl ?_ | refine r_off rfl rfl rfl rfl rfl ?_) | refine gi_plain ?_ | refine gi_skip ?_ | refine gi_inBlock ?_ | (refine gi_cnd ?_; first | refine gi_true rfl ?_ | refine gi_false rfl ?_)))
                exact on6 M (by rw [hh, List.append_nil]) _ _ _ ⟨rfl, rfl, rfl, rfl, rfl, rfl, rfl, rfl, rfl, rfl, rfl, rfl, rfl, rfl, rfl, rfl, rfl, trivial⟩ ⟨rfl, rfl, trivial⟩ ⟨rfl, trivial⟩
            · rw [List.length_map] at h5
              have hde : d = (mapL l).es.length := by omega
              subst hde
              rw [List.take_length]
              clear next
              (repeat (first | refine r_end ?_ | (refine r_op ?_; refine r_pure hT rfl rfl rfl rfl rfl rfl ?_) | refine gi_plain ?_ | refine gi_inBlock ?_ | refine gi_exit rfl ?_))
              exact on4 _ _ _ ⟨rfl, rfl, rfl, rfl, rfl, rfl, rfl, rfl, rfl, rfl, rfl, rfl, rfl, rfl, rfl, trivial⟩ ⟨rfl, rfl, trivial⟩ ⟨rfl, trivial⟩
        · rw [List.length_map] at h4
          have hie : i = outs.length := by omega
          subst hie
          rw [List.take_length]
          have hL' : PL t o (j + 1) (L ++ outs.flatMap (hitX t (mapL l).es ((j : Int) + 1))) := hL'
          generalize L ++ outs.flatMap (hitX t (mapL l).es ((j : Int) + 1)) = L2 at hL' ⊢
          clear next hmt hL
          obtain ⟨cnt, hcnt⟩ : ∃ cnt, cnt = (outs.filter (isS ((j : Int) + 1))).length := ⟨_, rfl⟩
          rw [← hcnt]
          have hc1 : cnt ≤ 1 := by
            rcases hO with ⟨_, rfl, _⟩ | ⟨a', _, _, hG⟩
            · rw [hcnt]; exact Nat.zero_le _
            · rw [hcnt, hG.stub hr6]; split <;> omega
          apply gi_cut (σ := Unit) (fun _ => [(34, Bo (eqB (cnt : Int) 1)), (30, I (cnt : Int)), (26, I ((j : Int) + 1)), (24, .sl 0), (21, I s.p), (19, rsN o), (18, rsNd t), (17, I a), (16, I (k : Int)), (15, rsV ms), (14, .box 0 0), (13, fsL l), (4, u8 h)]) (fun _ => [hMf (mapL l), hEt pf bt g' up (fsOt outs)]) (fun _ => [eN (cntN t.length L2)]) (fun _ => True) (fun _ => rfl)
          case first =>
            intro fin
            rcases hO with ⟨hp, rfl, _⟩ | ⟨a', hp, _, hG⟩
            · have hc0 : cnt = 0 := hcnt
              subst hc0
              rw [hp]
              (repeat (first | (refine r_op ?_; refine r_pure hT rfl rfl rfl rfl rfl rfl ?_) | refine gi_seq ?_ | refine gi_plain ?_ | refine gi_exit rfl ?_))
              refine r_known (d := 209) (b := false) rfl (by rw [leB_eq]; rfl) ?_
              (repeat (first | refine r_end ?_ | (refine r_op ?_; first | refine r_pure hT rfl rfl rfl rfl rfl rfl ?_ | refine r_off rfl rfl rfl rfl rfl ?_) | refine gi_seq ?_))
              refine fin () _ _ _ trivial ⟨?_, rfl, rfl, rfl, rfl, rfl, rfl, rfl, rfl, rfl, rfl, rfl, rfl, trivial⟩ ⟨rfl, rfl, trivial⟩ ⟨rfl, trivial⟩
              show some (Bo false) = some (Bo (eqB ((0 : Nat) : Int) 1))
              rw [eqB_eq]
              rfl
            · have hst := hG.stub hr6
              rw [← hcnt] at hst
              rw [hp]
              (repeat (first | (refine r_op ?_; refine r_pure hT rfl rfl rfl rfl rfl rfl ?_) | refine gi_seq ?_ | refine gi_plain ?_ | refine gi_exit rfl ?_))
              refine r_known (d := 209) (b := true) rfl (by rw [leB_eq]; exact decide_eq_true (by show (0 : Int) ≤ (a' : Int); omega)) ?_
              (repeat ((refine r_op ?_; refine r_pure hT rfl rfl rfl rfl rfl rfl ?_)))
              refine r_shr rfl rfl rfl rfl rfl rfl rfl rfl (by rw [wr_eq]; show 0 ≤ (IntKind.u64).wrap _; rw [IntKind.wrap_u64]; omega) rfl ?_
              (repeat ((refine r_op ?_; refine r_pure hT rfl rfl rfl rfl rfl rfl ?_)))
              refine r_case (d := 217) rfl (fun c1 => ?_) (fun c1 => ?_)
              · have c1 : bitF h ((j : Int) + 1) = true := c1
                rw [c1] at hst
                (repeat ((refine r_op ?_; refine r_pure hT rfl rfl rfl rfl rfl rfl ?_)))
                refine r_shl (n := 256 * (200 + ((j : Int) + 1))) rfl rfl rfl rfl rfl rfl rfl rfl (by decide) (by rw [wr_i64 (n := 200 + ((j : Int) + 1)) (by omega) (by omega)]; show wr .i64 ((200 + ((j : Int) + 1)) * 256) = _; rw [wr_i64 (by omega) (by omega)]; omega) ?_
                (repeat (first | refine r_end ?_ | (refine r_op ?_; refine r_pure hT rfl rfl rfl rfl rfl rfl ?_) | refine gi_seq ?_))
                refine fin () _ _ _ trivial ⟨?_, rfl, rfl, rfl, rfl, rfl, rfl, rfl, rfl, rfl, rfl, rfl, rfl, trivial⟩ ⟨rfl, rfl, trivial⟩ ⟨rfl, trivial⟩
                show some (Bo (notB (eqB s.p (256 * (200 + ((j : Int) + 1)))))) = some (Bo (eqB (cnt : Int) 1))
                rw [hst, notB_eq, eqB_eq, eqB_eq]
                by_cases hq : s.p = 256 * (200 + ((j : Int) + 1))
                · rw [if_neg (fun hh => hh.2 hq), hq]; simp
                · rw [if_pos ⟨rfl, hq⟩]
                  have : (s.p == 256 * (200 + ((j : Int) + 1))) = false := by simpa using hq
                  rw [this]
                  rfl
              · have c1 : bitF h ((j : Int) + 1) = false := c1
                rw [c1, if_neg (fun hh => by cases hh.1)] at hst
                subst hst
                (repeat (first | refine r_end ?_ | (refine r_op ?_; first | refine r_pure hT rfl rfl rfl rfl rfl rfl ?_ | refine r_off rfl rfl rfl rfl rfl ?_) | refine gi_seq ?_))
                refine fin () _ _ _ trivial ⟨?_, rfl, rfl, rfl, rfl, rfl, rfl, rfl, rfl, rfl, rfl, rfl, rfl, trivial⟩ ⟨rfl, rfl, trivial⟩ ⟨rfl, trivial⟩
                show some (Bo false) = some (Bo (eqB ((0 : Nat) : Int) 1))
                rw [eqB_eq]
                rfl
          case after =>
            intro _ _
            (repeat (first | (refine r_op ?_; refine r_pure hT rfl rfl rfl rfl rfl rfl ?_) | refine gi_plain ?_))
            refine r_known (d := 228) (b := false) rfl (by rw [notB_eq, beqB_eq]; simp) ?_
            (repeat (first | refine r_end ?_ | (refine r_op ?_; refine r_pure hT rfl rfl rfl rfl rfl rfl ?_)))
            refine gi_known (d := 231) (b := false) rfl (by rw [ltB_eq]; exact decide_eq_false (by omega)) ?_
            (repeat (first | refine r_end ?_ | (refine r_op ?_; refine r_pure hT rfl rfl rfl rfl rfl rfl ?_) | refine gi_plain ?_ | refine gi_skip ?_ | refine gi_inBlock ?_ | (refine gi_cnd ?_; first | refine gi_true rfl ?_ | refine gi_false rfl ?_)))
            exact on L2 hL' _ _ _ ⟨rfl, rfl, rfl, rfl, rfl, rfl, rfl, rfl, rfl, rfl, rfl, trivial⟩ ⟨rfl, trivial⟩ ⟨rfl, trivial⟩
    · simp only at h3
      have hjk : j = k := by omega
      subst hjk
      clear next
      (repeat (first | refine gi_seq ?_ | refine gi_exit rfl ?_))
      refine gi_weak (F' := [(24, .sl 0), (19, rsN o), (18, rsNd t)]) (H' := [hMf (mapL l)]) (S' := [eN (cntN t.length L)]) ⟨rfl, rfl, rfl, trivial⟩ ⟨rfl, trivial⟩ ⟨rfl, trivial⟩ rfl ?_
      (repeat (first | refine r_end ?_ | (refine r_op ?_; refine r_pure hT rfl rfl rfl rfl rfl rfl ?_) | refine gi_plain ?_ | refine gi_block ?_))
      refine gi_loop (σ := Nat) (fun i => [(35, I (i : Int)), (24, .sl 0), (19, rsN o), (18, rsNd t)]) (fun _ => [hMf (mapL l)]) (fun _ => [eN (cntN t.length L)]) (fun i => i ≤ t.length) (fun i => t.length - i) 0 (Nat.zero_le _) ⟨rfl, rfl, rfl, rfl, trivial⟩ ⟨rfl, trivial⟩ ⟨rfl, trivial⟩ (fun _ => rfl) (fun i hi next => ?_)
      have hi : i ≤ t.length := hi
      (repeat (first | refine r_end ?_ | (refine r_op ?_; refine r_pure hT rfl rfl rfl rfl rfl rfl ?_) | refine gi_seq ?_ | refine gi_plain ?_))
      refine gi_lt (q := ((t.map Nd.row).length : Int)) rfl (fun h4 => ?_) (fun h4 => ?_)
      · rw [List.length_map] at h4
        have hil : i < t.length := by omega
        obtain ⟨m, hm⟩ : ∃ m, t[i]? = some m := ⟨_, List.getElem?_eq_getElem hil⟩
        obtain ⟨y, hy⟩ : ∃ y, o[i]? = some y := ⟨_, List.getElem?_eq_getElem (by omega)⟩
        have hfin := hL.fin hM hTr hk hm hy
        have on : ∀ F1 H1 S1, SubF [(35, I (wr .i64 ((i : Int) + 1))), (24, .sl 0), (19, rsN o), (18, rsNd t)] F1 → SubH [hMf (mapL l)] H1 → SubS [eN (cntN t.length L)] S1 → GI _ _ F1 H1 S1 := fun F1 H1 S1 hF hH hS => by
          refine next (i + 1) F1 H1 S1 hil (by omega) ?_ hH hS
          rw [wadd1 (by omega)] at hF
          exact hF
        clear next
        (repeat (first | (refine r_op ?_; refine r_pure hT rfl rfl rfl rfl rfl rfl ?_) | refine gi_seq ?_ | refine gi_plain ?_ | refine gi_skip ?_ | refine gi_block ?_))
        refine r_idx (row := m.row) hT rfl rfl rfl rfl rfl rfl rfl rfl rfl rfl rfl rfl (nn i) (by simp [hm]) ?_
        (repeat (first | refine r_end ?_ | (refine r_op ?_; first | refine r_pure hT rfl rfl rfl rfl rfl rfl ?_ | refine r_load hT rfl rfl rfl rfl rfl rfl rfl rfl rfl ?_)))
        refine gi_cond rfl (fun c1 => ?_) (fun c1 => ?_)
        · (repeat (first | refine r_end ?_ | (refine r_op ?_; refine r_pure hT rfl rfl rfl rfl rfl rfl ?_) | refine gi_plain ?_ | refine gi_exit rfl ?_))
          exact on _ _ _ ⟨rfl, rfl, rfl, rfl, trivial⟩ ⟨rfl, trivial⟩ ⟨rfl, trivial⟩
        rw [notB_eq, eqB_eq, Bool.not_eq_false'] at c1
        have hfin := hfin (of_decide_eq_true c1)
        obtain ⟨wt, hwt⟩ : ∃ wt : Nat, wt = if 0 < i ∧ 0 ≤ y then 1 else 0 := ⟨_, rfl⟩
        rw [← hwt] at hfin
        apply gi_cut (σ := Unit) (fun _ => [(36, I (wt : Int)), (35, I (i : Int)), (24, .sl 0), (19, rsN o), (18, rsNd t)]) (fun _ => [hMf (mapL l)]) (fun _ => [eN (cntN t.length L)]) (fun _ => True) (fun _ => rfl)
        case first =>
          intro fin
          (repeat (first | refine r_end ?_ | (refine r_op ?_; refine r_pure hT rfl rfl rfl rfl rfl rfl ?_) | refine gi_seq ?_ | refine gi_plain ?_ | refine gi_skip ?_))
          refine r_case (d := 247) rfl (fun c2 => ?_) (fun c2 => ?_)
          · rw [ltB_eq] at c2
            have c2 : (0 : Int) < (i : Int) := of_decide_eq_true c2
            (repeat ((refine r_op ?_; refine r_pure hT rfl rfl rfl rfl rfl rfl ?_)))
            refine r_idx (row := nRow y) hT rfl rfl rfl rfl rfl rfl rfl rfl rfl rfl rfl rfl (nn i) (by simp [hy]) ?_
            (repeat (first | refine r_end ?_ | (refine r_op ?_; first | refine r_pure hT rfl rfl rfl rfl rfl rfl ?_ | refine r_load hT rfl rfl rfl rfl rfl rfl rfl rfl rfl ?_)))
            refine gi_cond rfl (fun c3 => ?_) (fun c3 => ?_)
            · rw [leB_eq] at c3
              have c3 : (0 : Int) ≤ y := of_decide_eq_true c3
              rw [if_pos ⟨by omega, c3⟩] at hwt
              subst hwt
              (repeat (first | refine r_end ?_ | (refine r_op ?_; refine r_pure hT rfl rfl rfl rfl rfl rfl ?_) | refine gi_seq ?_ | refine gi_plain_ne 47 rfl ?_))
              exact fin () _ _ _ trivial ⟨rfl, rfl, rfl, rfl, rfl, trivial⟩ ⟨rfl, trivial⟩ ⟨rfl, trivial⟩
            · rw [leB_eq] at c3
              have c3 : ¬ (0 : Int) ≤ y := of_decide_eq_false c3
              rw [if_neg (fun hh => c3 hh.2)] at hwt
              subst hwt
              (repeat (first | refine gi_seq ?_ | refine gi_skip ?_))
              exact fin () _ _ _ trivial ⟨rfl, rfl, rfl, rfl, rfl, trivial⟩ ⟨rfl, trivial⟩ ⟨rfl, trivial⟩
          · rw [ltB_eq] at c2
            have c2 : ¬ (0 : Int) < (i : Int) := of_decide_eq_false c2
            rw [if_neg (fun hh => c2 (by have := hh.1; omega))] at hwt
            subst hwt
            (repeat (first | refine r_end ?_ | (refine r_op ?_; first | refine r_pure hT rfl rfl rfl rfl rfl rfl ?_ | refine r_off rfl rfl rfl rfl rfl ?_) | refine gi_seq ?_ | refine gi_skip ?_ | (refine gi_cnd ?_; first | refine gi_true rfl ?_ | refine gi_false rfl ?_)))
            exact fin () _ _ _ trivial ⟨rfl, rfl, rfl, rfl, rfl, trivial⟩ ⟨rfl, trivial⟩ ⟨rfl, trivial⟩
        case after =>
          intro _ _
          (repeat (first | (refine r_op ?_; refine r_pure hT rfl rfl rfl rfl rfl rfl ?_) | refine gi_plain ?_))
          refine r_idxS hT rfl rfl rfl rfl rfl rfl rfl rfl rfl rfl rfl rfl rfl (nn i) (by show ((i : Nat) : Int).toNat < ((cntN t.length L).map nRow).length; rw [List.length_map, cntN_len]; exact hil) ?_
          skip
          refine r_loadS (row := nRow (L.count i : Int)) hT rfl rfl rfl rfl rfl rfl rfl rfl (by show ((cntN t.length L).map nRow)[i]? = _; rw [List.getElem?_map, cntN_at _ hil]; rfl) rfl rfl rfl ?_
          (repeat (first | refine r_end ?_ | (refine r_op ?_; refine r_pure hT rfl rfl rfl rfl rfl rfl ?_)))
          refine gi_known (d := 259) (b := false) rfl (by rw [hfin, notB_eq, eqB_eq]; simp) ?_
          (repeat (first | refine r_end ?_ | (refine r_op ?_; refine r_pure hT rfl rfl rfl rfl rfl rfl ?_) | refine gi_plain ?_ | refine gi_skip ?_ | refine gi_inBlock ?_ | (refine gi_cnd ?_; first | refine gi_true rfl ?_ | refine gi_false rfl ?_)))
          exact on _ _ _ ⟨rfl, rfl, rfl, rfl, trivial⟩ ⟨rfl, trivial⟩ ⟨rfl, trivial⟩
      · clear next
        (repeat (first | refine gi_seq ?_ | refine gi_plain ?_ | refine gi_exit rfl ?_))
        refine r_call (awake24_ok) rfl rfl rfl rfl rfl rfl rfl rfl Try.func40 rfl rfl rfl pB ?_
        rintro r S1 ⟨rfl, rfl⟩
        (repeat (first | refine r_end ?_ | (refine r_op ?_; refine r_pure hT rfl rfl rfl rfl rfl rfl ?_)))
        refine gi_retW hT Try.func10 rfl rfl [] rfl rfl rfl rfl ?_
        exact ⟨rfl, rfl⟩
end Go.Proofs.Ytmocggibcniggaa.Kt
