/- Part of the proofs of this seat's statements: what the functions compute. No condition. -/
import Derived.Test.YtmocggibcniggaaG2
import Derived.Test.YtmocggibcniggaaK4
set_option linter.unusedSimpArgs false
set_option linter.unusedVariables false
namespace Go.Proofs.Ytmocggibcniggaa.Kt
open Go Kw Go.Proofs
set_option maxHeartbeats 4000000
set_option maxRecDepth 100000
/-! ### the order of routes; lists that are one but for the order of different keys -/
def kLt (x y : Rt) : Prop := x.p < y.p ∨ (x.p = y.p ∧ (x.b < y.b ∨ (x.b = y.b ∧ x.c < y.c)))
def Rt.key (x : Rt) : Int × Int × Int := (x.p, x.b, x.c)
theorem cmp3_lt (x y : Int) : cmp3 x y < 0 ↔ x < y := by unfold cmp3; split <;> (try split) <;> omega
theorem cmp3_0 (x y : Int) : cmp3 x y = 0 ↔ x = y := by unfold cmp3; split <;> (try split) <;> omega
theorem cmpRt_lt (x y : Rt) : cmpRt x y < 0 ↔ kLt x y := by
  unfold cmpRt kLt
  simp only [orL]
  have h1 := cmp3_lt x.p y.p
  have h2 := cmp3_lt x.b y.b
  have h3 := cmp3_lt x.c y.c
  have e1 := cmp3_0 x.p y.p
  have e2 := cmp3_0 x.b y.b
  have e3 := cmp3_0 x.c y.c
  by_cases q1 : cmp3 x.p y.p = 0
  · rw [if_pos q1]
    have := e1.1 q1
    by_cases q2 : cmp3 x.b y.b = 0
    · rw [if_pos q2]
      have := e2.1 q2
      by_cases q3 : cmp3 x.c y.c = 0
      · rw [if_pos q3]
        have := e3.1 q3
        omega
      · rw [if_neg q3, h3]; omega
    · rw [if_neg q2, h2]
      have : ¬ x.b = y.b := fun h => q2 (e2.2 h)
      omega
  · rw [if_neg q1, h1]
    have : ¬ x.p = y.p := fun h => q1 (e1.2 h)
    omega
theorem kLt_tr {x y z : Rt} (h : kLt x y) (h' : kLt y z) : kLt x z := by unfold kLt at *; omega
theorem kLe_tr {x y z : Rt} (h : ¬ kLt y x) (h' : ¬ kLt z y) : ¬ kLt z x := by unfold kLt at *; omega
theorem kLt_le {x y : Rt} (h : kLt x y) : ¬ kLt y x := by unfold kLt at *; omega
theorem kLt_irr (x : Rt) : ¬ kLt x x := by unfold kLt; omega
theorem kLt_ne {x y : Rt} (h : kLt x y) : x.key ≠ y.key := by
  intro e
  unfold Rt.key at e
  simp only [Prod.mk.injEq] at e
  unfold kLt at h
  omega
theorem kLt_tri {x y : Rt} (h : ¬ kLt x y) (h' : ¬ kLt y x) : x.key = y.key := by
  unfold kLt at *
  unfold Rt.key
  rw [Prod.mk.injEq, Prod.mk.injEq]
  omega
/-- The same, but for the order of different keys. -/
def Stb (l m : List Rt) : Prop := ∀ k, m.filter (fun x => decide (x.key = k)) = l.filter (fun x => decide (x.key = k))
theorem Stb.rfl {l : List Rt} : Stb l l := fun _ => Eq.refl _
theorem Stb.trans {l m n : List Rt} (h : Stb l m) (h' : Stb m n) : Stb l n := fun k => (h' k).trans (h k)
theorem Stb.app {a b a' b' : List Rt} (h : Stb a a') (h' : Stb b b') : Stb (a ++ b) (a' ++ b') := fun k => by
  rw [List.filter_append, List.filter_append, h k, h' k]
theorem stb_swap {x y : Rt} (h : x.key ≠ y.key) : Stb [x, y] [y, x] := fun k => by
  by_cases h1 : x.key = k
  · have h2 : ¬ y.key = k := fun e => h (h1.trans e.symm)
    simp [h1, h2]
  · by_cases h2 : y.key = k <;> simp [h1, h2]
/-- Two lists, none of one as great as one of the other. -/
theorem stb_rot {u v : List Rt} (h : ∀ x ∈ u, ∀ y ∈ v, x.key ≠ y.key) : Stb (u ++ v) (v ++ u) := fun k => by
  rw [List.filter_append, List.filter_append]
  by_cases hu : ∃ x ∈ u, x.key = k
  · obtain ⟨x, hx, rfl⟩ := hu
    have : v.filter (fun y => decide (y.key = x.key)) = [] := by
      rw [List.filter_eq_nil_iff]
      intro y hy
      rw [decide_eq_true_iff]
      exact fun e => h x hx y hy e.symm
    rw [this, List.nil_append, List.append_nil]
  · have : u.filter (fun y => decide (y.key = k)) = [] := by
      rw [List.filter_eq_nil_iff]
      intro y hy
      rw [decide_eq_true_iff]
      exact fun e => hu ⟨y, hy, e⟩
    rw [this, List.nil_append, List.append_nil]
theorem Stb.mem {l m : List Rt} (h : Stb l m) {x : Rt} : x ∈ m ↔ x ∈ l := by
  have := h x.key
  constructor
  · intro hx
    have : x ∈ m.filter (fun y => decide (y.key = x.key)) := List.mem_filter.2 ⟨hx, decide_eq_true (Eq.refl _)⟩
    rw [h x.key] at this
    exact (List.mem_filter.1 this).1
  · intro hx
    have : x ∈ l.filter (fun y => decide (y.key = x.key)) := List.mem_filter.2 ⟨hx, decide_eq_true (Eq.refl _)⟩
    rw [← h x.key] at this
    exact (List.mem_filter.1 this).1
/-- Sorted between two places. -/
def Srt (a b : Nat) (l : List Rt) : Prop := ∀ (i j : Nat) x y, a ≤ i → i < j → j < b → l[i]? = some x → l[j]? = some y → ¬ kLt y x
/-- Turned between two places alone, the same there but for the order of different keys. -/
structure Seg (a b : Nat) (l m : List Rt) : Prop where
  len : m.length = l.length
  lo : ∀ (i : Nat), i < a → m[i]? = l[i]?
  hi : ∀ (i : Nat), b ≤ i → m[i]? = l[i]?
  stb : Stb l m
theorem Seg.rfl {a b : Nat} {l : List Rt} : Seg a b l l := ⟨Eq.refl _, fun _ _ => Eq.refl _, fun _ _ => Eq.refl _, Stb.rfl⟩
theorem Seg.trans {a b : Nat} {l m n : List Rt} (h : Seg a b l m) (h' : Seg a b m n) : Seg a b l n :=
  ⟨h'.len.trans h.len, fun i hi => (h'.lo i hi).trans (h.lo i hi), fun i hi => (h'.hi i hi).trans (h.hi i hi), h.stb.trans h'.stb⟩
theorem Seg.wide {a b a' b' : Nat} {l m : List Rt} (h : Seg a b l m) (ha : a' ≤ a) (hb : b ≤ b') : Seg a' b' l m :=
  ⟨h.len, fun i hi => h.lo i (by omega), fun i hi => h.hi i (by omega), h.stb⟩
/-- Two neighbours are exchanged. -/
abbrev swpL (l : List Rt) (j : Nat) (x y : Rt) : List Rt := (l.set (j + 1) x).set j y
theorem swp_get {l : List Rt} {j : Nat} {x y : Rt} (hj : j + 1 < l.length) (i : Nat) : (swpL l j x y)[i]? = if i = j then some y else if i = j + 1 then some x else l[i]? := by
  by_cases h : i = j
  · subst h
    rw [if_pos (Eq.refl _), List.getElem?_set_self (by rw [List.length_set]; omega)]
  · rw [if_neg h, List.getElem?_set_ne (fun e => h e.symm)]
    by_cases h' : i = j + 1
    · subst h'
      rw [if_pos (Eq.refl _), List.getElem?_set_self hj]
    · rw [if_neg h', List.getElem?_set_ne (fun e => h' e.symm)]
theorem split2 {l : List Rt} {j : Nat} {x y : Rt} (hx : l[j]? = some x) (hy : l[j + 1]? = some y) : l = l.take j ++ ([x, y] ++ l.drop (j + 2)) := by
  have h1 := (List.getElem?_eq_some_iff.1 hx).1
  have h2 := (List.getElem?_eq_some_iff.1 hy).1
  conv => lhs; rw [← List.take_append_drop j l]
  rw [List.drop_eq_getElem_cons h1, List.drop_eq_getElem_cons h2, (List.getElem?_eq_some_iff.1 hx).2, (List.getElem?_eq_some_iff.1 hy).2]
  rfl
theorem Seg.swap {a b : Nat} {l : List Rt} {j : Nat} {x y : Rt} (ha : a ≤ j) (hb : j + 1 < b) (hx : l[j]? = some x) (hy : l[j + 1]? = some y) (h : x.key ≠ y.key) : Seg a b l (swpL l j x y) := by
  have h1 := (List.getElem?_eq_some_iff.1 hx).1
  have h2 := (List.getElem?_eq_some_iff.1 hy).1
  have hg := fun i => swp_get (x := x) (y := y) h2 i
  refine ⟨by simp, fun i hi => ?_, fun i hi => ?_, ?_⟩
  · rw [hg i, if_neg (by omega), if_neg (by omega)]
  · rw [hg i, if_neg (by omega), if_neg (by omega)]
  · have e1 := split2 hx hy
    have hx' : (swpL l j x y)[j]? = some y := by rw [hg, if_pos (Eq.refl _)]
    have hy' : (swpL l j x y)[j + 1]? = some x := by rw [hg, if_neg (by omega), if_pos (Eq.refl _)]
    have e2 := split2 hx' hy'
    have t1 : (swpL l j x y).take j = l.take j := by
      refine List.ext_getElem? (fun i => ?_)
      rw [List.getElem?_take, List.getElem?_take]
      split
      · rw [hg i, if_neg (by omega), if_neg (by omega)]
      · rfl
    have t2 : (swpL l j x y).drop (j + 2) = l.drop (j + 2) := by
      refine List.ext_getElem? (fun i => ?_)
      rw [List.getElem?_drop, List.getElem?_drop, hg, if_neg (by omega), if_neg (by omega)]
    rw [t1, t2] at e2
    have := (Stb.rfl (l := l.take j)).app ((stb_swap h).app (Stb.rfl (l := l.drop (j + 2))))
    rw [← e1, ← e2] at this
    exact this
/-- What holds within the inner loop of an insertion: all is sorted but the one at j, which all behind it are greater than. -/
structure Ins (a i j : Nat) (l : List Rt) : Prop where
  lo : a ≤ j
  hi : j ≤ i
  srt : ∀ (u v : Nat) x y, a ≤ u → u < v → v ≤ i → u ≠ j → v ≠ j → l[u]? = some x → l[v]? = some y → ¬ kLt y x
  gt : ∀ (v : Nat) x y, j < v → v ≤ i → l[j]? = some x → l[v]? = some y → ¬ kLt y x
theorem Ins.start {a i : Nat} {l : List Rt} (ha : a ≤ i) (h : Srt a i l) : Ins a i i l :=
  ⟨ha, Nat.le_refl _, fun u v x y h1 h2 h3 _ h5 hx hy => h u v x y h1 h2 (by omega) hx hy, fun v x y h1 h2 => by omega⟩
theorem Ins.swap {a i j : Nat} {l : List Rt} {x y : Rt} (h : Ins a i (j + 1) l) (ha : a ≤ j) (hx : l[j]? = some x) (hy : l[j + 1]? = some y) (hlt : kLt y x) : Ins a i j (swpL l j x y) := by
  have h2 := (List.getElem?_eq_some_iff.1 hy).1
  have hg := fun i => swp_get (x := x) (y := y) h2 i
  have hhi := h.hi
  refine ⟨ha, by omega, fun u v p q h1 h3 h4 h5 h6 hp hq => ?_, fun v p q h1 h3 hp hq => ?_⟩
  · rw [hg, if_neg h5] at hp
    rw [hg, if_neg h6] at hq
    by_cases e1 : u = j + 1
    · rw [if_pos e1] at hp
      cases hp
      rw [if_neg (by omega)] at hq
      exact h.srt j v x q ha (by omega) h4 (by omega) (by omega) hx hq
    · rw [if_neg e1] at hp
      by_cases e2 : v = j + 1
      · rw [if_pos e2] at hq
        cases hq
        exact h.srt u j p x h1 (by omega) (by omega) (by omega) (by omega) hp hx
      · rw [if_neg e2] at hq
        exact h.srt u v p q h1 h3 h4 e1 e2 hp hq
  · rw [hg, if_pos (Eq.refl _)] at hp
    cases hp
    rw [hg, if_neg (by omega)] at hq
    by_cases e2 : v = j + 1
    · rw [if_pos e2] at hq
      cases hq
      exact kLt_le hlt
    · rw [if_neg e2] at hq
      exact h.gt v y q (by omega) h3 hy hq
theorem Ins.stop {a i j : Nat} {l : List Rt} (h : Ins a i j l) (hs : j = a ∨ ∀ x y, l[j - 1]? = some x → l[j]? = some y → ¬ kLt y x) : Srt a (i + 1) l := by
  intro u v p q h1 h2 h3 hp hq
  have hlo := h.lo
  by_cases e1 : u = j
  · subst e1
    exact h.gt v p q h2 (by omega) hp hq
  · by_cases e2 : v = j
    · subst e2
      rcases hs with hs | hs
      · omega
      · have hl := (List.getElem?_eq_some_iff.1 hq).1
        obtain ⟨z, hz⟩ : ∃ z, l[v - 1]? = some z := ⟨_, List.getElem?_eq_getElem (by omega)⟩
        have hzq := hs z q hz hq
        by_cases e3 : u = v - 1
        · subst e3
          rw [hz] at hp; cases hp
          exact hzq
        · exact kLe_tr (h.srt u (v - 1) p z h1 (by omega) (by have := h.hi; omega) e1 (by omega) hp hz) hzq
    · exact h.srt u v p q h1 h2 (by omega) e1 e2 hp hq
theorem set_row (l : List Rt) (j : Nat) (x : Rt) : (l.map Rt.row).set j x.row = (l.set j x).map Rt.row := by rw [List.map_set]
end Go.Proofs.Ytmocggibcniggaa.Kt
namespace Go.Proofs.Ytmocggibcniggaa.Kt
open Go Kw Go.Proofs
attribute [local irreducible] Kw.GI Kw.GR Kw.FnR Kw.FnX Kw.FnI
set_option maxHeartbeats 16000000
set_option maxRecDepth 100000
abbrev aCmp : AV := .fn 64 []
abbrev tRt : TypeId := 67
theorem pl_Rt (l : List Rt) : ∀ row ∈ l.map Rt.row, ∀ x ∈ row, ∃ v, x = RV.v v :=
  pl_rows (fun x c hc => by simp only [List.mem_cons, List.not_mem_nil, or_false] at hc; rcases hc with rfl | rfl | rfl | rfl | rfl <;> exact ⟨_, rfl⟩) l
/-- What a sort of the rows from a to b leaves. -/
def RSrt (a b : Nat) (l : List Rt) (L' : List (List RV)) : Prop := ∃ m, L' = m.map Rt.row ∧ Seg a b l m ∧ Srt a b m
theorem row_get {l : List Rt} {i : Nat} {x : Rt} (h : l[i]? = some x) : (l.map Rt.row)[i]? = some x.row := by rw [List.getElem?_map, h]; rfl
theorem ins_ok (l : List Rt) (a b : Nat) (hab : a ≤ b) (hb : b ≤ l.length) (hl : l.length < 100000000) : FnI Try.prog 97 [.sl 0, I (a : Int), I (b : Int), aCmp] tRt 5 (l.map Rt.row) (RSrt a b l) := by
  refine fnI_intro (T := TT) (n := 53) Try.func97 rfl rfl rfl (fun w X Z Y B V => ?_)
  (repeat (first | refine r_end ?_ | (refine r_op ?_; refine r_pure hT rfl rfl rfl rfl rfl rfl ?_) | refine gi_seq ?_ | refine gi_plain ?_ | refine gi_block ?_))
  refine gi_loop (σ := Nat × List Rt) (fun s => [(8, I (s.1 : Int)), (0, .sl 0), (1, I (a : Int)), (2, I (b : Int)), (3, aCmp)]) (fun _ => []) (fun s => [eRt s.2]) (fun s => a < s.1 ∧ (s.1 ≤ b ∨ s.1 = a + 1) ∧ Seg a b l s.2 ∧ Srt a s.1 s.2) (fun s => b - s.1) (a + 1, l) ⟨by simp only; omega, .inr rfl, Seg.rfl, fun i j x y h1 h2 h3 => by simp only at h3; omega⟩ ⟨?_, rfl, rfl, rfl, rfl, trivial⟩ trivial ⟨rfl, trivial⟩ (fun _ => rfl) (fun s hs next => ?_)
  · show some (I (wr .i64 ((a : Int) + 1))) = _
    rw [wr_i64 (by omega) (by omega)]
    simp
  obtain ⟨i, m⟩ := s
  obtain ⟨hai, hib, hseg, hsrt⟩ := hs
  simp only at hai hib hseg hsrt
  have hml := hseg.len
  (repeat (first | refine r_end ?_ | (refine r_op ?_; refine r_pure hT rfl rfl rfl rfl rfl rfl ?_) | refine gi_seq ?_ | refine gi_plain ?_))
  refine gi_lt (p := (i : Int)) (q := (b : Int)) rfl (fun h3 => ?_) (fun h3 => ?_)
  · have hib : i < b := by omega
    have on : ∀ m', Seg a b l m' → Srt a (i + 1) m' → ∀ F1 H1 S1, SubF [(8, I (wr .i64 ((i : Int) + 1))), (0, .sl 0), (1, I (a : Int)), (2, I (b : Int)), (3, aCmp)] F1 → SubH [] H1 → SubS [eRt m'] S1 → GI _ _ F1 H1 S1 := fun m' hm' hs' F1 H1 S1 hF hH hS => by
      refine next (i + 1, m') F1 H1 S1 ⟨by simp only; omega, by simp only; omega, hm', hs'⟩ (by simp only; omega) ?_ hH hS
      rw [wr_i64 (by omega) (by omega)] at hF
      simpa using hF
    clear next
    (repeat (first | refine r_end ?_ | (refine r_op ?_; refine r_pure hT rfl rfl rfl rfl rfl rfl ?_) | refine gi_seq ?_ | refine gi_plain ?_ | refine gi_skip ?_ | refine gi_block ?_))
    refine gi_loop (σ := Nat × List Rt) (fun s => [(9, I (s.1 : Int)), (8, I (i : Int)), (0, .sl 0), (1, I (a : Int)), (2, I (b : Int)), (3, aCmp)]) (fun _ => []) (fun s => [eRt s.2]) (fun s => Seg a b l s.2 ∧ Ins a i s.1 s.2) (fun s => s.1) (i, m) ⟨hseg, Ins.start (by omega) hsrt⟩ ⟨rfl, rfl, rfl, rfl, rfl, rfl, trivial⟩ trivial ⟨rfl, trivial⟩ (fun _ => rfl) (fun s hs next => ?_)
    obtain ⟨j, m'⟩ := s
    obtain ⟨hseg', hins⟩ := hs
    simp only at hseg' hins
    have hml' := hseg'.len
    have hjlo := hins.lo
    have hjhi := hins.hi
    (repeat (refine gi_seq ?_))
    refine gi_drawM [] [(0, .p), (1, .p), (2, .p), (3, .p), (4, .p), (5, .p), (6, .p), (7, .p), (9, .p), (10, .p), (11, .p), (12, .p), (8, .t), (13, .t), (14, .o), (15, .p), (16, .p)] [0, 0, 3, 4, 8, 8, 8, 104, 136, 8, 8, 1032, 2568, 4104, 8472, 16392, 32776] [0, 0, 3, 4, 8, 8, 8, 104, 136, 8, 8, 1032, 2568, 4104, 8472, 16392, 32776] Kt.hm rfl (by kernel_rfl) (fun w1 K => ?_)
    (repeat ((refine r_op ?_; refine r_pure hT rfl rfl rfl rfl rfl rfl ?_)))
    refine r_case (d := 21) rfl (fun c1 => ?_) (fun c1 => ?_)
    · rw [ltB_eq] at c1
      have c1 := of_decide_eq_true c1
      obtain ⟨k, rfl⟩ : ∃ k, j = k + 1 := ⟨j - 1, by omega⟩
      obtain ⟨x, hx⟩ : ∃ x, m'[k]? = some x := ⟨_, List.getElem?_eq_getElem (by omega)⟩
      obtain ⟨y, hy⟩ : ∃ y, m'[k + 1]? = some y := ⟨_, List.getElem?_eq_getElem (by omega)⟩
      have e1 : wr .i64 (((k + 1 : Nat) : Int) - 1) = (k : Int) := by rw [wr_i64 (by omega) (by omega)]; omega
      have e2 : (((k + 1 : Nat) : Int)).toNat = k + 1 := Int.toNat_natCast _
      have hyr : (m'.map Rt.row)[(((k + 1 : Nat) : Int)).toNat]? = some y.row := by rw [e2]; exact row_get hy
      have hxr : (m'.map Rt.row)[((k : Nat) : Int).toNat]? = some x.row := by rw [Int.toNat_natCast]; exact row_get hx
      (repeat ((refine r_op ?_; refine r_pure hT rfl rfl rfl rfl rfl rfl ?_)))
      refine r_idxS hT rfl rfl rfl rfl rfl rfl rfl rfl rfl rfl rfl rfl rfl (by show (0 : Int) ≤ ((k + 1 : Nat) : Int); omega) (by show (((k + 1 : Nat) : Int)).toNat < (m'.map Rt.row).length; rw [e2, List.length_map]; omega) ?_
      (repeat ((refine r_op ?_; refine r_pure hT rfl rfl rfl rfl rfl rfl ?_)))
      refine r_turn (d := 29) (y := I (k : Int)) rfl (by rw [e1]) ?_
      refine r_idxS hT rfl rfl rfl rfl rfl rfl rfl rfl rfl rfl rfl rfl rfl (by show (0 : Int) ≤ (k : Int); omega) (by show ((k : Nat) : Int).toNat < (m'.map Rt.row).length; rw [Int.toNat_natCast, List.length_map]; omega) ?_
      skip
      refine r_loadS (row := y.row) hT rfl rfl rfl rfl rfl rfl rfl rfl hyr rfl rfl rfl ?_
      skip
      refine r_loadS (row := x.row) hT rfl rfl rfl rfl rfl rfl rfl rfl hxr rfl rfl rfl ?_
      skip
      refine r_call (cmp_ok y x) rfl rfl rfl rfl rfl rfl rfl rfl Try.func64 rfl rfl rfl pI ?_
      rintro r S1 ⟨rfl, rfl⟩
      (repeat (first | refine r_end ?_ | (refine r_op ?_; refine r_pure hT rfl rfl rfl rfl rfl rfl ?_)))
      refine gi_lt (p := cmpRt y x) (q := 0) rfl (fun h4 => ?_) (fun h4 => ?_)
      · rw [cmpRt_lt] at h4
        (repeat (first | refine gi_seq ?_ | refine gi_skip ?_ | refine gi_block ?_))
        refine gi_drawM [15, 17] [(0, .p), (1, .p), (2, .p), (3, .p), (4, .p), (5, .p), (6, .p), (7, .p), (8, .p), (10, .p), (11, .p), (12, .p), (9, .t), (13, .t), (14, .p), (15, .l), (16, .p), (17, .l)] [0, 0, 0, 0, 8, 0, 0, 64, 160, 256, 0, 0, 3072, 4096, 9187, 25571, 65535, 131071] [0, 0, 0, 0, 8, 0, 0, 64, 160, 256, 0, 0, 3072, 4096, 3, 16896, 20, 73728] Kt.hm rfl (by kernel_rfl) (fun w1 K => ?_)
        (repeat ((refine r_op ?_; refine r_pure hT rfl rfl rfl rfl rfl rfl ?_)))
        refine r_turn (d := 44) (y := I (k : Int)) rfl (by rw [e1]) ?_
        refine r_turn (d := 41) (y := I (k : Int)) rfl (by rw [e1]) ?_
        refine r_idxS hT rfl rfl rfl rfl rfl rfl rfl rfl rfl rfl rfl rfl rfl (by show (0 : Int) ≤ (k : Int); omega) (by show ((k : Nat) : Int).toNat < (m'.map Rt.row).length; rw [Int.toNat_natCast, List.length_map]; omega) ?_
        (repeat ((refine r_op ?_; refine r_pure hT rfl rfl rfl rfl rfl rfl ?_)))
        refine r_idxS hT rfl rfl rfl rfl rfl rfl rfl rfl rfl rfl rfl rfl rfl (by show (0 : Int) ≤ ((k + 1 : Nat) : Int); omega) (by show (((k + 1 : Nat) : Int)).toNat < (m'.map Rt.row).length; rw [e2, List.length_map]; omega) ?_
        skip
        refine r_loadS (row := x.row) hT rfl rfl rfl rfl rfl rfl rfl rfl hxr rfl rfl rfl ?_
        skip
        refine r_loadS (row := y.row) hT rfl rfl rfl rfl rfl rfl rfl rfl hyr rfl rfl rfl ?_
        skip
        refine r_idxS hT rfl rfl rfl rfl rfl rfl rfl rfl rfl rfl rfl rfl rfl (by show (0 : Int) ≤ ((k + 1 : Nat) : Int); omega) (by show (((k + 1 : Nat) : Int)).toNat < (m'.map Rt.row).length; rw [e2, List.length_map]; omega) ?_
        skip
        refine r_storeS (row := y.row) hT rfl rfl rfl rfl rfl rfl rfl rfl rfl rfl rfl rfl rfl hyr ?_
        skip
        refine r_idxS hT rfl rfl rfl rfl rfl rfl rfl rfl rfl rfl rfl rfl rfl (by show (0 : Int) ≤ (k : Int); omega) (by show ((k : Nat) : Int).toNat < (List.set (m'.map Rt.row) _ _).length; rw [Int.toNat_natCast, List.length_set, List.length_map]; omega) ?_
        skip
        refine r_storeS (row := x.row) hT rfl rfl rfl rfl rfl rfl rfl rfl rfl rfl rfl rfl rfl (by show (List.set (m'.map Rt.row) (((k + 1 : Nat) : Int)).toNat _)[((k : Nat) : Int).toNat]? = _; rw [List.getElem?_set_ne (by rw [e2, Int.toNat_natCast]; omega)]; exact hxr) ?_
        (repeat (first | refine r_end ?_ | (refine r_op ?_; refine r_pure hT rfl rfl rfl rfl rfl rfl ?_) | refine gi_plain ?_ | refine gi_inBlock ?_))
        refine next (k, swpL m' k x y) _ _ _ ⟨hseg'.trans (Seg.swap (by omega) (by omega) hx hy (Ne.symm (kLt_ne h4))), hins.swap (by omega) hx hy h4⟩ (by simp only; omega) ⟨?_, rfl, rfl, rfl, rfl, rfl, trivial⟩ trivial ⟨?_, trivial⟩
        · show some (I (wr .i64 (((k + 1 : Nat) : Int) - 1))) = _
          rw [e1]
        · refine congrArg (fun L => some (⟨tRt, 5, L, false⟩ : SE)) ?_
          symm
          show List.set (List.set (m'.map Rt.row) (((k + 1 : Nat) : Int)).toNat x.row) ((k : Nat) : Int).toNat y.row = (swpL m' k x y).map Rt.row
          rw [e2, Int.toNat_natCast, set_row, set_row]
      · rw [cmpRt_lt] at h4
        (repeat (first | refine r_end ?_ | (refine r_op ?_; refine r_pure hT rfl rfl rfl rfl rfl rfl ?_) | refine gi_plain ?_ | refine gi_inBlock ?_ | refine gi_exit rfl ?_))
        refine on m' hseg' (hins.stop (.inr (fun p q hp hq => ?_))) _ _ _ ⟨rfl, rfl, rfl, rfl, rfl, trivial⟩ trivial ⟨rfl, trivial⟩
        rw [show k + 1 - 1 = k by omega, hx] at hp
        rw [hy] at hq
        cases hp; cases hq
        exact h4
    · rw [ltB_eq] at c1
      have c1 := of_decide_eq_false c1
      (repeat (first | refine r_end ?_ | (refine r_op ?_; first | refine r_pure hT rfl rfl rfl rfl rfl rfl ?_ | refine r_off rfl rfl rfl rfl rfl ?_) | refine gi_plain ?_ | refine gi_inBlock ?_ | refine gi_exit rfl ?_ | (refine gi_cnd ?_; first | refine gi_true rfl ?_ | refine gi_false rfl ?_)))
      exact on m' hseg' (hins.stop (.inl (by omega))) _ _ _ ⟨rfl, rfl, rfl, rfl, rfl, trivial⟩ trivial ⟨rfl, trivial⟩
  · (repeat (refine gi_exit rfl ?_))
    refine gi_finX hT Try.func97 rfl [] [0] rfl rfl rfl rfl rfl rfl rfl rfl ?_
    exact ⟨rfl, rfl, _, rfl, by rw [List.length_map, List.length_map, hml], pl_Rt m, m, rfl, hseg, fun u v x y h1 h2 h4 hx hy => hsrt u v x y h1 h2 (by omega) hx hy⟩
end Go.Proofs.Ytmocggibcniggaa.Kt
namespace Go.Proofs.Ytmocggibcniggaa.Kt
open Go Kw Go.Proofs
attribute [local irreducible] Kw.GI Kw.GR Kw.FnR Kw.FnX Kw.FnI
set_option maxHeartbeats 16000000
set_option maxRecDepth 100000
/-! ### two ranges change places; two neighbouring ones are rotated -/
theorem mix_set {X Y : List Rt} {k : Nat} {x : Rt} (hx : X[k]? = some x) (hk : k < Y.length) : (X.take k ++ Y.drop k).set k x = X.take (k + 1) ++ Y.drop (k + 1) := by
  have hkx := (List.getElem?_eq_some_iff.1 hx).1
  rw [List.set_append_right _ _ (by rw [List.length_take]; omega), List.length_take, show k - min k X.length = 0 by omega, List.drop_eq_getElem_cons hk, List.set_cons_zero, take_snoc hx, List.append_assoc]
  rfl
theorem mix_len {X Y : List Rt} {k : Nat} (h : X.length = Y.length) (hk : k ≤ X.length) : (X.take k ++ Y.drop k).length = X.length := by
  rw [List.length_append, List.length_take, List.length_drop]; omega
/-- The list behind k exchanges. -/
def mixL (P A C B Q : List Rt) (k : Nat) : List Rt := P ++ ((B.take k ++ A.drop k) ++ (C ++ ((A.take k ++ B.drop k) ++ Q)))
section
variable {P A C B Q : List Rt} {k : Nat} {x y : Rt}
theorem mix_0 : mixL P A C B Q 0 = P ++ (A ++ (C ++ (B ++ Q))) := by unfold mixL; simp
theorem mix_end (h : A.length = B.length) : mixL P A C B Q A.length = P ++ (B ++ (C ++ (A ++ Q))) := by
  unfold mixL
  rw [List.take_length, List.drop_length, List.append_nil, h, List.take_length, List.drop_length, List.append_nil]
theorem mixL_len (h : A.length = B.length) (hk : k ≤ A.length) : (mixL P A C B Q k).length = P.length + (A.length + (C.length + (A.length + Q.length))) := by
  simp only [mixL, List.length_append, List.length_take, List.length_drop]
  omega
theorem mix_a (h : A.length = B.length) (hx : A[k]? = some x) : (mixL P A C B Q k)[P.length + k]? = some x := by
  have hk := (List.getElem?_eq_some_iff.1 hx).1
  unfold mixL
  rw [List.getElem?_append_right (by omega), show P.length + k - P.length = k by omega, List.getElem?_append_left (by rw [mix_len h.symm (by omega)]; omega), List.getElem?_append_right (by rw [List.length_take]; omega), List.length_take, List.getElem?_drop, show k + (k - min k B.length) = k by omega]
  exact hx
theorem mix_b (h : A.length = B.length) (hy : B[k]? = some y) : (mixL P A C B Q k)[P.length + (A.length + (C.length + k))]? = some y := by
  have hk := (List.getElem?_eq_some_iff.1 hy).1
  have hl := mix_len (X := B) (Y := A) (k := k) h.symm (by omega)
  unfold mixL
  rw [List.getElem?_append_right (by omega), show P.length + (A.length + (C.length + k)) - P.length = A.length + (C.length + k) by omega, List.getElem?_append_right (by rw [hl]; omega), hl, show A.length + (C.length + k) - B.length = C.length + k by omega, List.getElem?_append_right (by omega), show C.length + k - C.length = k by omega, List.getElem?_append_left (by rw [mix_len h (by omega)]; omega), List.getElem?_append_right (by rw [List.length_take]; omega), List.length_take, List.getElem?_drop, show k + (k - min k A.length) = k by omega]
  exact hy
theorem mix_step (h : A.length = B.length) (hx : A[k]? = some x) (hy : B[k]? = some y) : ((mixL P A C B Q k).set (P.length + k) y).set (P.length + (A.length + (C.length + k))) x = mixL P A C B Q (k + 1) := by
  have hk := (List.getElem?_eq_some_iff.1 hx).1
  have hl := mix_len (X := B) (Y := A) (k := k) h.symm (by omega)
  have hl1 := mix_len (X := B) (Y := A) (k := k + 1) h.symm (by omega)
  have hl2 := mix_len (X := A) (Y := B) (k := k) h (by omega)
  have s1 : (mixL P A C B Q k).set (P.length + k) y = P ++ ((B.take (k + 1) ++ A.drop (k + 1)) ++ (C ++ ((A.take k ++ B.drop k) ++ Q))) := by
    unfold mixL
    rw [List.set_append_right _ _ (by omega), show P.length + k - P.length = k by omega, List.set_append_left _ _ (by rw [hl]; omega), mix_set hy (by omega)]
  rw [s1]
  unfold mixL
  rw [List.set_append_right _ _ (by omega), show P.length + (A.length + (C.length + k)) - P.length = A.length + (C.length + k) by omega, List.set_append_right _ _ (by rw [hl1]; omega), hl1, show A.length + (C.length + k) - B.length = C.length + k by omega, List.set_append_right _ _ (by omega), show C.length + k - C.length = k by omega, List.set_append_left _ _ (by rw [hl2]; omega), mix_set hx (by omega)]
end
theorem swap_ok (Pp Aa Cc Bb Qq : List Rt) (a b n : Nat) (ha : a = Pp.length) (hn : n = Aa.length) (hAB : Aa.length = Bb.length) (hb : b = Pp.length + (Aa.length + Cc.length)) (hl : Pp.length + (Aa.length + (Cc.length + (Aa.length + Qq.length))) < 100000000) :
    FnI Try.prog 116 [.sl 0, I (a : Int), I (b : Int), I (n : Int), aCmp] tRt 5 ((Pp ++ (Aa ++ (Cc ++ (Bb ++ Qq)))).map Rt.row) (fun L' => L' = (Pp ++ (Bb ++ (Cc ++ (Aa ++ Qq)))).map Rt.row) := by
  subst ha hn hb
  rw [← mix_0]
  have hlk := fun k hk => mixL_len (P := Pp) (A := Aa) (C := Cc) (B := Bb) (Q := Qq) (k := k) hAB hk
  refine fnI_intro (T := TT) (n := 38) Try.func116 rfl rfl rfl (fun w X Z Y B V => ?_)
  (repeat (first | refine r_end ?_ | (refine r_op ?_; refine r_pure hT rfl rfl rfl rfl rfl rfl ?_) | refine gi_seq ?_ | refine gi_plain ?_ | refine gi_block ?_))
  refine gi_loop (σ := Nat) (fun k => [(10, I (k : Int)), (0, .sl 0), (1, I (Pp.length : Int)), (2, I ((Pp.length + (Aa.length + Cc.length) : Nat) : Int)), (3, I (Aa.length : Int)), (4, aCmp)]) (fun _ => []) (fun k => [eRt (mixL Pp Aa Cc Bb Qq k)]) (fun k => k ≤ Aa.length) (fun k => Aa.length - k) 0 (Nat.zero_le _) ⟨rfl, rfl, rfl, rfl, rfl, rfl, trivial⟩ trivial ⟨rfl, trivial⟩ (fun _ => rfl) (fun k hk next => ?_)
  have hk : k ≤ Aa.length := hk
  (repeat (first | refine r_end ?_ | (refine r_op ?_; refine r_pure hT rfl rfl rfl rfl rfl rfl ?_) | refine gi_seq ?_ | refine gi_plain ?_))
  refine gi_lt (p := (k : Int)) (q := (Aa.length : Int)) rfl (fun h3 => ?_) (fun h3 => ?_)
  · have hkA : k < Aa.length := by omega
    obtain ⟨x, hx⟩ : ∃ x, Aa[k]? = some x := ⟨_, List.getElem?_eq_getElem hkA⟩
    obtain ⟨y, hy⟩ : ∃ y, Bb[k]? = some y := ⟨_, List.getElem?_eq_getElem (by omega)⟩
    have hma := mix_a (P := Pp) (C := Cc) (Q := Qq) hAB hx
    have hmb := mix_b (P := Pp) (C := Cc) (Q := Qq) hAB hy
    have hst := mix_step (P := Pp) (C := Cc) (Q := Qq) hAB hx hy
    have hlen := hlk k hk
    obtain ⟨i, hi⟩ : ∃ i, i = Pp.length + k := ⟨_, rfl⟩
    obtain ⟨j, hj⟩ : ∃ j, j = Pp.length + (Aa.length + (Cc.length + k)) := ⟨_, rfl⟩
    rw [← hi] at hma hst
    rw [← hj] at hmb hst
    have ei : wr .i64 ((Pp.length : Int) + (k : Int)) = (i : Int) := by rw [wr_i64 (by omega) (by omega)]; omega
    have ej : wr .i64 (((Pp.length + (Aa.length + Cc.length) : Nat) : Int) + (k : Int)) = (j : Int) := by rw [wr_i64 (by omega) (by omega)]; omega
    obtain ⟨m, hmm⟩ : ∃ m, m = mixL Pp Aa Cc Bb Qq k := ⟨_, rfl⟩
    rw [← hmm] at hma hmb hst hlen
    rw [← hmm]
    have hil : i < m.length := by omega
    have hjl : j < m.length := by omega
    (repeat (first | refine gi_seq ?_ | refine gi_skip ?_ | refine gi_block ?_))
    refine gi_drawM [21, 23] [(0, .p), (1, .p), (2, .p), (3, .p), (4, .p), (5, .p), (6, .p), (7, .p), (8, .p), (9, .p), (10, .p), (11, .p), (12, .p), (14, .p), (15, .p), (16, .p), (17, .p), (18, .p), (13, .t), (19, .t), (20, .p), (21, .l), (22, .p), (23, .l)] [0, 0, 0, 6, 0, 0, 0, 96, 0, 0, 0, 1536, 2304, 4096, 0, 0, 0, 98304, 147456, 262144, 540431, 1589007, 4194303, 8388607] [0, 0, 0, 6, 0, 0, 0, 96, 0, 0, 0, 1536, 2304, 4096, 0, 0, 0, 98304, 147456, 262144, 9, 1056768, 144, 4718592] Kt.hm rfl (by kernel_rfl) (fun w1 K => ?_)
    (repeat ((refine r_op ?_; refine r_pure hT rfl rfl rfl rfl rfl rfl ?_)))
    refine r_turn (d := 19) (y := I (i : Int)) rfl (by rw [ei]) ?_
    refine r_turn (d := 27) (y := I (j : Int)) rfl (by rw [ej]) ?_
    have hmar := row_get hma
    have hmbr := row_get hmb
    have ri : ((i : Nat) : Int).toNat = i := Int.toNat_natCast _
    have rj : ((j : Nat) : Int).toNat = j := Int.toNat_natCast _
    have hij : i ≠ j := by omega
    refine r_idxS hT rfl rfl rfl rfl rfl rfl rfl rfl rfl rfl rfl rfl rfl (by show (0 : Int) ≤ (j : Int); omega) (by show ((j : Nat) : Int).toNat < (m.map Rt.row).length; rw [rj, List.length_map]; omega) ?_
    (repeat ((refine r_op ?_; refine r_pure hT rfl rfl rfl rfl rfl rfl ?_)))
    refine r_turn (d := 23) (y := I (j : Int)) rfl (by rw [ej]) ?_
    refine r_turn (d := 33) (y := I (i : Int)) rfl (by rw [ei]) ?_
    refine r_idxS hT rfl rfl rfl rfl rfl rfl rfl rfl rfl rfl rfl rfl rfl (by show (0 : Int) ≤ (i : Int); omega) (by show ((i : Nat) : Int).toNat < (m.map Rt.row).length; rw [ri, List.length_map]; omega) ?_
    skip
    refine r_loadS (row := y.row) hT rfl rfl rfl rfl rfl rfl rfl rfl (by rw [rj]; exact hmbr) rfl rfl rfl ?_
    skip
    refine r_loadS (row := x.row) hT rfl rfl rfl rfl rfl rfl rfl rfl (by rw [ri]; exact hmar) rfl rfl rfl ?_
    skip
    refine r_idxS hT rfl rfl rfl rfl rfl rfl rfl rfl rfl rfl rfl rfl rfl (by show (0 : Int) ≤ (i : Int); omega) (by show ((i : Nat) : Int).toNat < (m.map Rt.row).length; rw [ri, List.length_map]; omega) ?_
    skip
    refine r_storeS (row := x.row) hT rfl rfl rfl rfl rfl rfl rfl rfl rfl rfl rfl rfl rfl (by rw [ri]; exact hmar) ?_
    skip
    refine r_idxS hT rfl rfl rfl rfl rfl rfl rfl rfl rfl rfl rfl rfl rfl (by show (0 : Int) ≤ (j : Int); omega) (by show ((j : Nat) : Int).toNat < (List.set (m.map Rt.row) _ _).length; rw [rj, List.length_set, List.length_map]; omega) ?_
    skip
    refine r_storeS (row := y.row) hT rfl rfl rfl rfl rfl rfl rfl rfl rfl rfl rfl rfl rfl (by show (List.set (m.map Rt.row) ((i : Nat) : Int).toNat _)[((j : Nat) : Int).toNat]? = _; rw [List.getElem?_set_ne (by rw [ri, rj]; exact hij), rj]; exact hmbr) ?_
    (repeat (first | refine r_end ?_ | (refine r_op ?_; refine r_pure hT rfl rfl rfl rfl rfl rfl ?_) | refine gi_plain ?_ | refine gi_inBlock ?_))
    refine next (k + 1) _ _ _ hkA (by omega) ⟨?_, rfl, rfl, rfl, rfl, rfl, trivial⟩ trivial ⟨?_, trivial⟩
    · show some (I (wr .i64 ((k : Int) + 1))) = _
      rw [wr_i64 (by omega) (by omega)]
      simp
    · refine congrArg (fun L => some (⟨tRt, 5, L, false⟩ : SE)) ?_
      symm
      show List.set (List.set (m.map Rt.row) ((i : Nat) : Int).toNat y.row) ((j : Nat) : Int).toNat x.row = (mixL Pp Aa Cc Bb Qq (k + 1)).map Rt.row
      rw [ri, rj, set_row, set_row, hst]
  · have hkA : k = Aa.length := by omega
    subst hkA
    (repeat (refine gi_exit rfl ?_))
    refine gi_finX hT Try.func116 rfl [] [0] rfl rfl rfl rfl rfl rfl rfl rfl ?_
    rw [mix_end hAB]
    refine ⟨rfl, rfl, _, rfl, ?_, pl_Rt _, rfl⟩
    have h0 := hlk 0 (Nat.zero_le _)
    have h1 := hlk Aa.length (Nat.le_refl _)
    rw [mix_end hAB] at h1
    rw [List.length_map, List.length_map, h0, h1]
theorem rot_ok (Pp Uu Vv Qq : List Rt) (a m b : Nat) (ha : a = Pp.length) (hm' : m = Pp.length + Uu.length) (hb : b = Pp.length + (Uu.length + Vv.length)) (hu : 0 < Uu.length) (hv : 0 < Vv.length) (hl : Pp.length + (Uu.length + (Vv.length + Qq.length)) < 100000000) :
    FnI Try.prog 110 [.sl 0, I (a : Int), I (m : Int), I (b : Int), aCmp] tRt 5 ((Pp ++ (Uu ++ (Vv ++ Qq))).map Rt.row) (fun L' => L' = (Pp ++ (Vv ++ (Uu ++ Qq))).map Rt.row) := by
  have hlen0 : (Pp ++ (Uu ++ (Vv ++ Qq))).length = (Pp ++ (Vv ++ (Uu ++ Qq))).length := by simp only [List.length_append]; omega
  obtain ⟨G, hG⟩ : ∃ G, G = Pp ++ (Vv ++ (Uu ++ Qq)) := ⟨_, rfl⟩
  rw [← hG] at hlen0
  rw [← hG]
  have hGl : G.length < 100000000 := by rw [hG]; simp only [List.length_append]; omega
  refine fnI_intro (T := TT) (n := 58) Try.func110 rfl rfl rfl (fun w X Z Y B V => ?_)
  (repeat (first | refine r_end ?_ | (refine r_op ?_; refine r_pure hT rfl rfl rfl rfl rfl rfl ?_) | refine gi_seq ?_ | refine gi_plain ?_ | refine gi_block ?_))
  refine gi_loop (σ := List Rt × List Rt × List Rt × List Rt) (fun s => [(10, I (s.2.1.length : Int)), (11, I (s.2.2.1.length : Int)), (0, .sl 0), (2, I (m : Int)), (4, aCmp)]) (fun _ => []) (fun s => [eRt (s.1 ++ (s.2.1 ++ (s.2.2.1 ++ s.2.2.2)))]) (fun s => s.1.length + s.2.1.length = m ∧ 0 < s.2.1.length ∧ 0 < s.2.2.1.length ∧ s.1 ++ (s.2.2.1 ++ (s.2.1 ++ s.2.2.2)) = G) (fun s => s.2.1.length + s.2.2.1.length) (Pp, Uu, Vv, Qq) ⟨hm'.symm, hu, hv, hG.symm⟩ ⟨?_, ?_, rfl, rfl, rfl, trivial⟩ trivial ⟨rfl, trivial⟩ (fun _ => rfl) (fun s hs next => ?_)
  · show some (I (wr .i64 ((m : Int) - (a : Int)))) = some (I (Uu.length : Int))
    rw [wr_i64 (by omega) (by omega)]
    congr 3
    omega
  · show some (I (wr .i64 ((b : Int) - (m : Int)))) = some (I (Vv.length : Int))
    rw [wr_i64 (by omega) (by omega)]
    congr 3
    omega
  obtain ⟨p, u, v, q⟩ := s
  obtain ⟨h1, h2, h3, h4⟩ := hs
  simp only at h1 h2 h3 h4
  have hsz : p.length + (u.length + (v.length + q.length)) = G.length := by rw [← h4]; simp only [List.length_append]; omega
  (repeat (first | refine r_end ?_ | (refine r_op ?_; refine r_pure hT rfl rfl rfl rfl rfl rfl ?_) | refine gi_seq ?_ | refine gi_plain ?_))
  refine gi_ne (p := (u.length : Int)) (q := (v.length : Int)) rfl (fun h5 => ?_) (fun h5 => ?_)
  · (repeat (first | refine r_end ?_ | (refine r_op ?_; refine r_pure hT rfl rfl rfl rfl rfl rfl ?_) | refine gi_seq ?_ | refine gi_plain ?_ | refine gi_skip ?_ | refine gi_block ?_))
    refine gi_lt (p := (v.length : Int)) (q := (u.length : Int)) rfl (fun h6 => ?_) (fun h6 => ?_)
    · have h6 : v.length < u.length := by omega
      obtain ⟨u1, u2, hu12, hu1⟩ : ∃ u1 u2 : List Rt, u = u1 ++ u2 ∧ u1.length = v.length := ⟨u.take v.length, u.drop v.length, (List.take_append_drop _ _).symm, by rw [List.length_take]; omega⟩
      have hul : u.length = u1.length + u2.length := by rw [hu12, List.length_append]
      have hL : p ++ (u1 ++ (u2 ++ (v ++ q))) = p ++ (u ++ (v ++ q)) := by rw [hu12]; simp only [List.append_assoc]
      have spec := swap_ok p u1 u2 v q p.length m v.length rfl hu1.symm hu1 (by omega) (by omega)
      rw [hL] at spec
      (repeat (first | (refine r_op ?_; refine r_pure hT rfl rfl rfl rfl rfl rfl ?_) | refine gi_seq ?_ | refine gi_plain ?_))
      refine r_turn (d := 27) (y := I (p.length : Int)) rfl (by show I (wr .i64 ((m : Int) - (u.length : Int))) = _; rw [wr_i64 (by omega) (by omega)]; congr 3; omega) ?_
      refine r_callI 0 (spec) rfl rfl rfl rfl rfl rfl Try.func116 rfl rfl rfl rfl ?_
      intro L' hl' hL'
      subst hL'
      (repeat (first | refine r_end ?_ | (refine r_op ?_; refine r_pure hT rfl rfl rfl rfl rfl rfl ?_) | refine gi_plain ?_ | refine gi_inBlock ?_))
      refine next (p ++ v, u2, u1, q) _ _ _ ⟨?_, ?_, ?_, ?_⟩ ?_ ⟨?_, ?_, rfl, rfl, rfl, trivial⟩ trivial ⟨?_, trivial⟩
      · simp only [List.length_append]; omega
      · simp only; omega
      · simp only; omega
      · simp only; rw [← h4, hu12]; simp only [List.append_assoc]
      · simp only; omega
      · show some (I (wr .i64 ((u.length : Int) - (v.length : Int)))) = some (I (u2.length : Int))
        rw [wr_i64 (by omega) (by omega)]
        congr 3
        omega
      · show some (I (v.length : Int)) = some (I (u1.length : Int))
        rw [hu1]
      · show eRt ((p ++ v) ++ (u2 ++ (u1 ++ q))) = eRt (p ++ (v ++ (u2 ++ (u1 ++ q))))
        rw [List.append_assoc]
    · have h6 : u.length < v.length := by omega
      obtain ⟨v1, v2, hv12, hv2⟩ : ∃ v1 v2 : List Rt, v = v1 ++ v2 ∧ v2.length = u.length := ⟨v.take (v.length - u.length), v.drop (v.length - u.length), (List.take_append_drop _ _).symm, by rw [List.length_drop]; omega⟩
      have hvl : v.length = v1.length + v2.length := by rw [hv12, List.length_append]
      have hL : p ++ (u ++ (v1 ++ (v2 ++ q))) = p ++ (u ++ (v ++ q)) := by rw [hv12]; simp only [List.append_assoc]
      have spec := swap_ok p u v1 v2 q p.length (m + v1.length) u.length rfl rfl hv2.symm (by omega) (by omega)
      rw [hL] at spec
      (repeat (first | (refine r_op ?_; refine r_pure hT rfl rfl rfl rfl rfl rfl ?_) | refine gi_seq ?_ | refine gi_plain ?_))
      refine r_turn (d := 38) (y := I (p.length : Int)) rfl (by show I (wr .i64 ((m : Int) - (u.length : Int))) = _; rw [wr_i64 (by omega) (by omega)]; congr 3; omega) ?_
      refine r_turn (d := 43) (y := I ((m + v1.length : Nat) : Int)) rfl (by show I (wr .i64 (wr .i64 ((m : Int) + (v.length : Int)) - (u.length : Int))) = _; rw [wr_i64 (n := (m : Int) + (v.length : Int)) (by omega) (by omega), wr_i64 (by omega) (by omega)]; congr 3; omega) ?_
      refine r_callI 0 (spec) rfl rfl rfl rfl rfl rfl Try.func116 rfl rfl rfl rfl ?_
      intro L' hl' hL'
      subst hL'
      (repeat (first | refine r_end ?_ | (refine r_op ?_; refine r_pure hT rfl rfl rfl rfl rfl rfl ?_) | refine gi_plain ?_ | refine gi_inBlock ?_))
      refine next (p, v2, v1, u ++ q) _ _ _ ⟨?_, ?_, ?_, ?_⟩ ?_ ⟨?_, ?_, rfl, rfl, rfl, trivial⟩ trivial ⟨?_, trivial⟩
      · simp only; omega
      · simp only; omega
      · simp only; omega
      · simp only; rw [← h4, hv12]; simp only [List.append_assoc]
      · simp only; omega
      · show some (I (u.length : Int)) = some (I (v2.length : Int))
        rw [hv2]
      · show some (I (wr .i64 ((v.length : Int) - (u.length : Int)))) = some (I (v1.length : Int))
        rw [wr_i64 (by omega) (by omega)]
        congr 3
        omega
      · rfl
  · have h5 : u.length = v.length := by omega
    have spec := swap_ok p u [] v q p.length m u.length rfl rfl h5 (by simp only [List.length_nil]; omega) (by simp only [List.length_nil]; omega)
    (repeat (first | (refine r_op ?_; refine r_pure hT rfl rfl rfl rfl rfl rfl ?_) | refine gi_plain ?_ | refine gi_exit rfl ?_))
    refine r_turn (d := 53) (y := I (p.length : Int)) rfl (by show I (wr .i64 ((m : Int) - (u.length : Int))) = _; rw [wr_i64 (by omega) (by omega)]; congr 3; omega) ?_
    refine r_callI 0 (spec) rfl rfl rfl rfl rfl rfl Try.func116 rfl rfl rfl rfl ?_
    intro L' hl' hL'
    subst hL'
    (repeat (refine r_end ?_))
    refine gi_finX hT Try.func110 rfl [] [0] rfl rfl rfl rfl rfl rfl rfl rfl ?_
    rw [List.nil_append, h4]
    exact ⟨rfl, rfl, _, rfl, by rw [List.length_map, List.length_map, hlen0], pl_Rt _, rfl⟩
end Go.Proofs.Ytmocggibcniggaa.Kt
namespace Go.Proofs.Ytmocggibcniggaa.Kt
open Go Kw Go.Proofs
set_option maxHeartbeats 4000000
set_option maxRecDepth 100000
/-! ### the merge of two sorted runs, in place -/
theorem Srt.sub {a b a' b' : Nat} {l : List Rt} (h : Srt a b l) (ha : a ≤ a') (hb : b' ≤ b) : Srt a' b' l := fun i j x y h1 h2 h3 hx hy => h i j x y (by omega) h2 (by omega) hx hy
theorem Srt.same {a b : Nat} {l q : List Rt} (h : Srt a b l) (hq : ∀ u, a ≤ u → u < b → q[u]? = l[u]?) : Srt a b q := fun i j x y h1 h2 h3 hx hy =>
  h i j x y h1 h2 h3 (by rw [← hq i h1 (by omega)]; exact hx) (by rw [← hq j (by omega) h3]; exact hy)
theorem Srt.at {a b : Nat} {l : List Rt} (h : Srt a b l) {i j : Nat} {x y : Rt} (h1 : a ≤ i) (h2 : i ≤ j) (h3 : j < b) (hx : l[i]? = some x) (hy : l[j]? = some y) : ¬ kLt y x := by
  rcases Nat.lt_or_eq_of_le h2 with hlt | rfl
  · exact h i j x y h1 hlt h3 hx hy
  · rw [hx] at hy; cases hy; exact kLt_irr x
theorem split3 {l : List Rt} {a b : Nat} (hab : a ≤ b) : l = l.take a ++ ((l.drop a).take (b - a) ++ l.drop b) := by
  conv => lhs; rw [← List.take_append_drop a l, ← List.take_append_drop (b - a) (l.drop a)]
  rw [List.drop_drop, show a + (b - a) = b by omega]
theorem Seg.mid {a b : Nat} {l m : List Rt} (h : Seg a b l m) (hab : a ≤ b) : Stb ((l.drop a).take (b - a)) ((m.drop a).take (b - a)) := by
  have e1 : m.take a = l.take a := List.ext_getElem? (fun i => by
    rw [List.getElem?_take, List.getElem?_take]
    split
    · exact h.lo i ‹_›
    · rfl)
  have e2 : m.drop b = l.drop b := List.ext_getElem? (fun i => by
    rw [List.getElem?_drop, List.getElem?_drop]
    exact h.hi _ (by omega))
  intro k
  have hk := h.stb k
  rw [split3 (l := m) hab, split3 (l := l) hab] at hk
  simp only [List.filter_append] at hk
  rw [e1, e2] at hk
  exact List.append_cancel_right (List.append_cancel_left hk)
theorem Seg.mem {a b : Nat} {l m : List Rt} (h : Seg a b l m) {u : Nat} {x : Rt} (h1 : a ≤ u) (h2 : u < b) (hx : m[u]? = some x) : ∃ u', a ≤ u' ∧ u' < b ∧ l[u']? = some x := by
  have hs := h.mid (by omega)
  have hm : x ∈ (m.drop a).take (b - a) := by
    refine List.mem_iff_getElem?.2 ⟨u - a, ?_⟩
    rw [List.getElem?_take, if_pos (by omega), List.getElem?_drop, show a + (u - a) = u by omega]
    exact hx
  obtain ⟨v, hv⟩ := List.mem_iff_getElem?.1 (hs.mem.1 hm)
  rw [List.getElem?_take] at hv
  split at hv
  · rw [List.getElem?_drop] at hv
    exact ⟨a + v, by omega, by omega, hv⟩
  · cases hv
/-- The one at a is carried up to k. -/
structure Up (a k : Nat) (l q : List Rt) : Prop where
  len : q.length = l.length
  get : ∀ u, q[u]? = if u < a ∨ k < u then l[u]? else if u = k then l[a]? else l[u + 1]?
theorem Up.start {a : Nat} {l : List Rt} : Up a a l l := ⟨rfl, fun u => by
  by_cases h : u < a ∨ a < u
  · rw [if_pos h]
  · rw [if_neg h, if_pos (by omega), show u = a by omega]⟩
theorem Up.at {a k : Nat} {l q : List Rt} (h : Up a k l q) (hk : a ≤ k) : q[k]? = l[a]? ∧ q[k + 1]? = l[k + 1]? := by
  refine ⟨?_, ?_⟩
  · rw [h.get, if_neg (by omega), if_pos rfl]
  · rw [h.get, if_pos (by omega)]
theorem Up.step {a k : Nat} {l q : List Rt} {x y : Rt} (h : Up a k l q) (hk : a ≤ k) (hx : l[a]? = some x) (hy : l[k + 1]? = some y) : Up a (k + 1) l (swpL q k x y) := by
  have hl := (List.getElem?_eq_some_iff.1 hy).1
  have hlen := h.len
  refine ⟨by simp [hlen], fun u => ?_⟩
  rw [swp_get (by omega)]
  by_cases h1 : u = k
  · rw [if_pos h1, if_neg (by omega), if_neg (by omega), h1, hy]
  · rw [if_neg h1]
    by_cases h2 : u = k + 1
    · rw [if_pos h2, if_neg (by omega), if_pos h2, hx]
    · rw [if_neg h2, h.get]
      by_cases h3 : u < a ∨ k < u
      · rw [if_pos h3, if_pos (by omega)]
      · rw [if_neg h3, if_neg h1, if_neg (by omega), if_neg h2]
theorem Up.sorted {a k b : Nat} {l q : List Rt} {x : Rt} (h : Up a k l q) (hk : a ≤ k) (hx : l[a]? = some x) (hs : Srt (a + 1) b l) (h1 : ∀ u y, a + 1 ≤ u → u < k + 1 → l[u]? = some y → kLt y x) (h2 : ∀ u y, k + 1 ≤ u → u < b → l[u]? = some y → ¬ kLt y x) (hkb : k < b) : Srt a b q := by
  intro u v p r ha huv hv hp hr
  rw [h.get] at hp hr
  by_cases v1 : k < v
  · rw [if_pos (.inr v1)] at hr
    by_cases u1 : k < u
    · rw [if_pos (.inr u1)] at hp
      exact hs u v p r (by omega) huv hv hp hr
    · rw [if_neg (by omega)] at hp
      by_cases u2 : u = k
      · rw [if_pos u2, hx] at hp
        cases hp
        exact h2 v r (by omega) hv hr
      · rw [if_neg u2] at hp
        exact hs (u + 1) v p r (by omega) (by omega) hv hp hr
  · rw [if_neg (by omega)] at hr
    rw [if_neg (by omega), if_neg (by omega)] at hp
    by_cases v2 : v = k
    · rw [if_pos v2, hx] at hr
      cases hr
      exact kLt_le (h1 (u + 1) p (by omega) (by omega) hp)
    · rw [if_neg v2] at hr
      exact hs (u + 1) (v + 1) p r (by omega) (by omega) (by omega) hp hr
/-- The one at m is carried down to k. -/
structure Dn (k m : Nat) (l q : List Rt) : Prop where
  len : q.length = l.length
  get : ∀ u, q[u]? = if u < k ∨ m < u then l[u]? else if u = k then l[m]? else l[u - 1]?
theorem Dn.start {m : Nat} {l : List Rt} : Dn m m l l := ⟨rfl, fun u => by
  by_cases h : u < m ∨ m < u
  · rw [if_pos h]
  · rw [if_neg h, if_pos (by omega), show u = m by omega]⟩
theorem Dn.at {k m : Nat} {l q : List Rt} (h : Dn (k + 1) m l q) (hk : k + 1 ≤ m) : q[k + 1]? = l[m]? ∧ q[k]? = l[k]? := by
  refine ⟨?_, ?_⟩
  · rw [h.get, if_neg (by omega), if_pos rfl]
  · rw [h.get, if_pos (by omega)]
theorem Dn.step {k m : Nat} {l q : List Rt} {x y : Rt} (h : Dn (k + 1) m l q) (hk : k + 1 ≤ m) (hx : l[m]? = some x) (hy : l[k]? = some y) : Dn k m l (swpL q k y x) := by
  have hl := (List.getElem?_eq_some_iff.1 hx).1
  have hlen := h.len
  refine ⟨by simp [hlen], fun u => ?_⟩
  rw [swp_get (by omega)]
  by_cases h1 : u = k
  · rw [if_pos h1, if_neg (by omega), if_pos h1, hx]
  · rw [if_neg h1]
    by_cases h2 : u = k + 1
    · rw [if_pos h2, if_neg (by omega), if_neg h1, h2, show k + 1 - 1 = k by omega, hy]
    · rw [if_neg h2, h.get]
      by_cases h3 : u < k + 1 ∨ m < u
      · rw [if_pos h3, if_pos (by omega)]
      · rw [if_neg h3, if_neg h2, if_neg (by omega), if_neg h1]
theorem Dn.sorted {a k m : Nat} {l q : List Rt} {x : Rt} (h : Dn k m l q) (hak : a ≤ k) (hk : k ≤ m) (hx : l[m]? = some x) (hs : Srt a m l) (h1 : ∀ u y, a ≤ u → u < k → l[u]? = some y → ¬ kLt x y) (h2 : ∀ u y, k ≤ u → u < m → l[u]? = some y → kLt x y) : Srt a (m + 1) q := by
  intro u v p r ha huv hv hp hr
  rw [h.get] at hp hr
  by_cases u1 : u < k
  · rw [if_pos (.inl u1)] at hp
    by_cases v1 : v < k
    · rw [if_pos (.inl v1)] at hr
      exact hs u v p r ha huv (by omega) hp hr
    · rw [if_neg (by omega)] at hr
      by_cases v2 : v = k
      · rw [if_pos v2, hx] at hr
        cases hr
        exact h1 u p ha u1 hp
      · rw [if_neg v2] at hr
        exact hs u (v - 1) p r ha (by omega) (by omega) hp hr
  · rw [if_neg (by omega)] at hp
    rw [if_neg (by omega), if_neg (by omega)] at hr
    by_cases u2 : u = k
    · rw [if_pos u2, hx] at hp
      cases hp
      exact kLt_le (h2 (v - 1) r (by omega) (by omega) hr)
    · rw [if_neg u2] at hp
      exact hs (u - 1) (v - 1) p r (by omega) (by omega) (by omega) hp hr
/-- Two neighbouring ranges, rotated. -/
structure Rot (s m e d : Nat) (l q : List Rt) : Prop where
  len : q.length = l.length
  get : ∀ u, q[u]? = if u < s ∨ e ≤ u then l[u]? else if u < d then l[u - s + m]? else l[u - d + s]?
theorem rot_get {P U V Q : List Rt} : Rot P.length (P.length + U.length) (P.length + (U.length + V.length)) (P.length + V.length) (P ++ (U ++ (V ++ Q))) (P ++ (V ++ (U ++ Q))) := by
  refine ⟨by simp only [List.length_append]; omega, fun u => ?_⟩
  by_cases h1 : u < P.length
  · rw [if_pos (.inl h1), List.getElem?_append_left h1, List.getElem?_append_left h1]
  · rw [List.getElem?_append_right (by omega)]
    by_cases h2 : P.length + (U.length + V.length) ≤ u
    · rw [if_pos (.inr h2), List.getElem?_append_right (by omega), List.getElem?_append_right (by omega), List.getElem?_append_right (by omega), List.getElem?_append_right (by omega), List.getElem?_append_right (by omega)]
      congr 1
      omega
    · rw [if_neg (by omega)]
      by_cases h3 : u < P.length + V.length
      · rw [if_pos h3, List.getElem?_append_left (by omega), List.getElem?_append_right (by omega), List.getElem?_append_right (by omega), List.getElem?_append_left (by omega)]
        congr 1
        omega
      · rw [if_neg h3, List.getElem?_append_right (by omega), List.getElem?_append_left (by omega), List.getElem?_append_right (by omega), List.getElem?_append_left (by omega)]
        congr 1
        omega
theorem rot_same {s m e d : Nat} {l : List Rt} (hd : s + e = d + m) (h : s = m ∨ m = e) : Rot s m e d l l := by
  refine ⟨rfl, fun u => ?_⟩
  by_cases h1 : u < s ∨ e ≤ u
  · rw [if_pos h1]
  · rw [if_neg h1]
    by_cases h2 : u < d
    · rw [if_pos h2, show u - s + m = u by omega]
    · rw [if_neg h2, show u - d + s = u by omega]
/-- What the search has found: where the two runs are to be cut. -/
structure Cut (a m b d s e : Nat) (l : List Rt) : Prop where
  sum : s + e = d + m
  sa : a ≤ s
  sm : s ≤ m
  me : m ≤ e
  eb : e ≤ b
  lt : ∀ x y, s < m → m < e → l[s]? = some x → l[e - 1]? = some y → kLt y x
  le : ∀ x y, a < s → e < b → l[s - 1]? = some x → l[e]? = some y → ¬ kLt y x
theorem Cut.strict {a m b d s e : Nat} {l : List Rt} (h : Cut a m b d s e l) (h1 : Srt a m l) (h2 : Srt m b l) (hl : b ≤ l.length) {u v : Nat} {x y : Rt} (hu1 : s ≤ u) (hu2 : u < m) (hv1 : m ≤ v) (hv2 : v < e) (hx : l[u]? = some x) (hy : l[v]? = some y) : kLt y x := by
  have heb := h.eb
  obtain ⟨p, hp⟩ : ∃ p, l[s]? = some p := ⟨_, List.getElem?_eq_getElem (by have := h.me; omega)⟩
  obtain ⟨r, hr⟩ : ∃ r, l[e - 1]? = some r := ⟨_, List.getElem?_eq_getElem (by omega)⟩
  have hlt := h.lt p r (by omega) (by omega) hp hr
  have hpx := h1.at h.sa hu1 hu2 hp hx
  have hyr := h2.at hv1 (by omega) (by omega) hy hr
  unfold kLt at *
  omega
theorem Cut.seg {a m b d s e : Nat} {P U V Q : List Rt} (h : Cut a m b d s e (P ++ (U ++ (V ++ Q)))) (h1 : Srt a m (P ++ (U ++ (V ++ Q)))) (h2 : Srt m b (P ++ (U ++ (V ++ Q)))) (hl : b ≤ (P ++ (U ++ (V ++ Q))).length) (hp : P.length = s) (hu : P.length + U.length = m) (hv : P.length + (U.length + V.length) = e) : Seg a b (P ++ (U ++ (V ++ Q))) (P ++ (V ++ (U ++ Q))) := by
  have hg := rot_get (P := P) (U := U) (V := V) (Q := Q)
  have hsa := h.sa
  have heb := h.eb
  refine ⟨hg.len, fun i hi => by rw [hg.get, if_pos (.inl (by omega))], fun i hi => by rw [hg.get, if_pos (.inr (by omega))], ?_⟩
  refine Stb.app Stb.rfl ?_
  rw [← List.append_assoc, ← List.append_assoc]
  refine Stb.app (stb_rot (fun x hx y hy => ?_)) Stb.rfl
  obtain ⟨i, hi⟩ := List.mem_iff_getElem?.1 hx
  obtain ⟨j, hj⟩ := List.mem_iff_getElem?.1 hy
  have hil := (List.getElem?_eq_some_iff.1 hi).1
  have hjl := (List.getElem?_eq_some_iff.1 hj).1
  refine Ne.symm (kLt_ne (h.strict h1 h2 hl (u := P.length + i) (v := P.length + (U.length + j)) (by omega) (by omega) (by omega) (by omega) ?_ ?_))
  · rw [List.getElem?_append_right (by omega), List.getElem?_append_left (by omega), show P.length + i - P.length = i by omega]; exact hi
  · rw [List.getElem?_append_right (by omega), List.getElem?_append_right (by omega), List.getElem?_append_left (by omega), show P.length + (U.length + j) - P.length - U.length = j by omega]; exact hj
/-- What is so behind the rotation. -/
structure Halves (a m b d s e : Nat) (l : List Rt) : Prop where
  s1 : Srt a s l
  s2 : Srt s d l
  s3 : Srt d e l
  s4 : Srt e b l
  cross : ∀ (u v : Nat) x y, a ≤ u → u < d → d ≤ v → v < b → l[u]? = some x → l[v]? = some y → ¬ kLt y x
theorem Cut.halves {a m b d s e : Nat} {l q : List Rt} (h : Cut a m b d s e l) (h1 : Srt a m l) (h2 : Srt m b l) (hl : b ≤ l.length) (hq : Rot s m e d l q) : Halves a m b d s e q := by
  obtain ⟨k1, k2, k3, k4, k5, k6, k7⟩ := h
  have hc : Cut a m b d s e l := ⟨k1, k2, k3, k4, k5, k6, k7⟩
  refine ⟨?_, ?_, ?_, ?_, ?_⟩
  · exact (h1.sub (Nat.le_refl _) k3).same (fun u _ hu => by rw [hq.get, if_pos (.inl hu)])
  · intro i j x y hi hij hj hx hy
    rw [hq.get, if_neg (by omega), if_pos (by omega)] at hx hy
    exact h2 _ _ x y (by omega) (by omega) (by omega) hx hy
  · intro i j x y hi hij hj hx hy
    rw [hq.get, if_neg (by omega), if_neg (by omega)] at hx hy
    exact h1 _ _ x y (by omega) (by omega) (by omega) hx hy
  · exact (h2.sub k4 (Nat.le_refl _)).same (fun u hu _ => by rw [hq.get, if_pos (.inr hu)])
  · intro u v x y hu1 hu2 hv1 hv2 hx hy
    rw [hq.get] at hx hy
    by_cases u1 : u < s
    · rw [if_pos (.inl u1)] at hx
      by_cases v1 : e ≤ v
      · rw [if_pos (.inr v1)] at hy
        obtain ⟨p, hp⟩ : ∃ p, l[s - 1]? = some p := ⟨_, List.getElem?_eq_getElem (by omega)⟩
        obtain ⟨r, hr⟩ : ∃ r, l[e]? = some r := ⟨_, List.getElem?_eq_getElem (by omega)⟩
        have e1 := k7 p r (by omega) (by omega) hp hr
        have e2 := h1.at hu1 (show u ≤ s - 1 by omega) (by omega) hx hp
        have e3 := h2.at k4 v1 hv2 hr hy
        exact kLe_tr e2 (kLe_tr e1 e3)
      · rw [if_neg (by omega), if_neg (by omega)] at hy
        exact h1.at hu1 (by omega) (by omega) hx hy
    · rw [if_neg (by omega), if_pos (by omega)] at hx
      by_cases v1 : e ≤ v
      · rw [if_pos (.inr v1)] at hy
        exact h2.at (by omega) (by omega) hv2 hx hy
      · rw [if_neg (by omega), if_neg (by omega)] at hy
        exact kLt_le (hc.strict h1 h2 hl (by omega) (by omega) (by omega) (by omega) hy hx)
theorem Halves.done {a m b d s e : Nat} {l q r : List Rt} (h : Halves a m b d s e l) (had : a ≤ d) (hdb : d ≤ b) (h1 : Seg a d l q) (h2 : Srt a d q) (h3 : Seg d b q r) (h4 : Srt d b r) : Seg a b l r ∧ Srt a b r := by
  refine ⟨(h1.wide (Nat.le_refl _) hdb).trans (h3.wide had (Nat.le_refl _)), fun u v x y hu huv hv hx hy => ?_⟩
  by_cases v1 : v < d
  · rw [h3.lo u (by omega)] at hx
    rw [h3.lo v v1] at hy
    exact h2 u v x y hu huv v1 hx hy
  · by_cases u1 : u < d
    · rw [h3.lo u u1] at hx
      obtain ⟨u', p1, p2, p3⟩ := h1.mem hu u1 hx
      obtain ⟨v', q1, q2, q3⟩ := h3.mem (by omega) hv hy
      rw [h1.hi v' q1] at q3
      exact h.cross u' v' x y p1 p2 q1 q2 p3 q3
    · exact h4 u v x y (by omega) huv hv hx hy
end Go.Proofs.Ytmocggibcniggaa.Kt
namespace Go.Proofs.Ytmocggibcniggaa.Kt
open Go Kw Go.Proofs
attribute [local irreducible] Kw.GI Kw.GR Kw.FnR Kw.FnX Kw.FnI
set_option maxHeartbeats 16000000
set_option maxRecDepth 100000
theorem half {i j : Nat} (h : i + j < 1000000000) : (wr .u64 (wr .i64 ((i : Int) + (j : Int)))).fdiv (2 ^ (min (1 : Int).toNat IntKind.u64.bits)) = (((i + j) / 2 : Nat) : Int) := by
  rw [wr_i64 (by omega) (by omega), wr_eq]
  have : IntKind.u64.wrap ((i : Int) + (j : Int)) = (i : Int) + j := by
    unfold IntKind.wrap
    simp [IntKind.bits, IntKind.signed]
    omega
  rw [this]
  show Int.fdiv ((i : Int) + j) (2 ^ 1) = _
  rw [Int.fdiv_eq_ediv_of_nonneg _ (by decide)]
  omega
theorem wsub {a b c : Nat} (h : a = b + c) (hb : a < 1000000000) : wr .i64 ((a : Int) - (b : Int)) = (c : Int) := by
  rw [wr_i64 (by omega) (by omega)]; omega
theorem wadd {a b c : Nat} (h : a + b = c) (hb : c < 1000000000) : wr .i64 ((a : Int) + (b : Int)) = (c : Int) := by
  rw [wr_i64 (by omega) (by omega)]; omega
theorem wadd1 {a : Nat} (hb : a < 1000000000) : wr .i64 ((a : Int) + 1) = ((a + 1 : Nat) : Int) := by
  rw [wr_i64 (by omega) (by omega)]; omega
theorem wsub1 {a : Nat} (hb : a < 1000000000) : wr .i64 (((a + 1 : Nat) : Int) - 1) = (a : Int) := by
  rw [wr_i64 (by omega) (by omega)]; omega
theorem row_lt {l : List Rt} {i : Nat} (h : i < l.length) : ((i : Nat) : Int).toNat < (l.map Rt.row).length := by rw [Int.toNat_natCast, List.length_map]; exact h
theorem row_lts {l : List Rt} {i : Nat} {j : Nat} {r : List RV} (h : i < l.length) : ((i : Nat) : Int).toNat < (List.set (l.map Rt.row) j r).length := by rw [Int.toNat_natCast, List.length_set, List.length_map]; exact h
theorem row_at {l : List Rt} {i : Nat} {x : Rt} (h : l[i]? = some x) : (l.map Rt.row)[((i : Nat) : Int).toNat]? = some x.row := by rw [Int.toNat_natCast]; exact row_get h
theorem nn (i : Nat) : (0 : Int) ≤ (i : Int) := by omega
theorem symA_ok (l : List Rt) (a m b : Nat) (ham : a + 1 = m) (hmb : m < b) (hb : b ≤ l.length) (hl : l.length < 100000000) (h2 : Srt m b l) : FnI Try.prog 98 [.sl 0, I (a : Int), I (m : Int), I (b : Int), aCmp] tRt 5 (l.map Rt.row) (RSrt a b l) := by
  obtain ⟨x, hx⟩ : ∃ x, l[a]? = some x := ⟨_, List.getElem?_eq_getElem (by omega)⟩
  refine fnI_intro (T := TT) (n := 220) Try.func98 rfl rfl rfl (fun w X Z Y B V => ?_)
  (repeat (first | refine r_end ?_ | (refine r_op ?_; refine r_pure hT rfl rfl rfl rfl rfl rfl ?_) | refine gi_seq ?_ | refine gi_plain ?_))
  refine gi_known (d := 28) (b := true) rfl (by rw [wsub (c := 1) (by omega) (by omega), eqB_eq]; rfl) ?_
  (repeat (first | refine r_end ?_ | (refine r_op ?_; refine r_pure hT rfl rfl rfl rfl rfl rfl ?_) | refine gi_seq ?_ | refine gi_plain ?_ | refine gi_block ?_ | (refine gi_cnd ?_; first | refine gi_true rfl ?_ | refine gi_false rfl ?_)))
  refine gi_loop (σ := Nat × Nat) (fun s => [(10, I (s.1 : Int)), (11, I (s.2 : Int)), (0, .sl 0), (1, I (a : Int)), (2, I (m : Int)), (3, I (b : Int)), (4, aCmp)]) (fun _ => []) (fun _ => [eRt l]) (fun s => m ≤ s.1 ∧ s.1 ≤ s.2 ∧ s.2 ≤ b ∧ (∀ u y, m ≤ u → u < s.1 → l[u]? = some y → kLt y x) ∧ ∀ u y, s.2 ≤ u → u < b → l[u]? = some y → ¬ kLt y x) (fun s => s.2 - s.1) (m, b) ⟨Nat.le_refl _, by simp only; omega, Nat.le_refl _, fun u y h3 h4 => by simp only at h4; omega, fun u y h3 h4 => by simp only at h3; omega⟩ ⟨rfl, rfl, rfl, rfl, rfl, rfl, rfl, trivial⟩ trivial ⟨rfl, trivial⟩ (fun _ => rfl) (fun s hs next => ?_)
  obtain ⟨i, j⟩ := s
  obtain ⟨q1, q2, q3, q4, q5⟩ := hs
  simp only at q1 q2 q3 q4 q5
  (repeat (first | refine r_end ?_ | (refine r_op ?_; refine r_pure hT rfl rfl rfl rfl rfl rfl ?_) | refine gi_seq ?_ | refine gi_plain ?_))
  refine gi_lt (p := (i : Int)) (q := (j : Int)) rfl (fun h4 => ?_) (fun h4 => ?_)
  · have hij : i < j := by omega
    obtain ⟨h, hh⟩ : ∃ h, h = (i + j) / 2 := ⟨_, rfl⟩
    have hhl : h < l.length := by omega
    obtain ⟨y, hy⟩ : ∃ y, l[h]? = some y := ⟨_, List.getElem?_eq_getElem hhl⟩
    (repeat (first | (refine r_op ?_; refine r_pure hT rfl rfl rfl rfl rfl rfl ?_) | refine gi_seq ?_ | refine gi_plain ?_ | refine gi_skip ?_ | refine gi_block ?_))
    refine r_shr (n := ((h : Nat) : Int)) rfl rfl rfl rfl rfl rfl rfl rfl (by decide) (by rw [hh]; exact half (by omega)) ?_
    (repeat (first | refine r_end ?_ | (refine r_op ?_; refine r_pure hT rfl rfl rfl rfl rfl rfl ?_) | refine gi_seq ?_))
    refine gi_turn (d := 12) (y := I (h : Int)) rfl (by rw [wr_i64 (by omega) (by omega)]) ?_
    refine gi_drawM [] [(0, .p), (1, .p), (2, .p), (3, .p), (5, .p), (6, .p), (7, .p), (4, .t), (8, .t), (9, .o), (10, .p)] [0, 0, 0, 6, 8, 0, 0, 96, 128, 273, 512] [0, 0, 0, 6, 8, 0, 0, 96, 128, 273, 512] Kt.hm rfl (by kernel_rfl) (fun w1 K => ?_)
    (repeat ((refine r_op ?_; refine r_pure hT rfl rfl rfl rfl rfl rfl ?_)))
    refine r_idxS hT rfl rfl rfl rfl rfl rfl rfl rfl rfl rfl rfl rfl rfl (nn h) (row_lt hhl) ?_
    (repeat ((refine r_op ?_; refine r_pure hT rfl rfl rfl rfl rfl rfl ?_)))
    refine r_idxS hT rfl rfl rfl rfl rfl rfl rfl rfl rfl rfl rfl rfl rfl (nn a) (row_lt (l := l) (by omega)) ?_
    skip
    refine r_loadS (row := y.row) hT rfl rfl rfl rfl rfl rfl rfl rfl (row_at hy) rfl rfl rfl ?_
    skip
    refine r_loadS (row := x.row) hT rfl rfl rfl rfl rfl rfl rfl rfl (row_at hx) rfl rfl rfl ?_
    skip
    refine r_call (cmp_ok y x) rfl rfl rfl rfl rfl rfl rfl rfl Try.func64 rfl rfl rfl pI ?_
    rintro r S1 ⟨rfl, rfl⟩
    (repeat (first | refine r_end ?_ | (refine r_op ?_; refine r_pure hT rfl rfl rfl rfl rfl rfl ?_)))
    refine gi_lt (p := cmpRt y x) (q := 0) rfl (fun h5 => ?_) (fun h5 => ?_)
    · rw [cmpRt_lt] at h5
      (repeat (first | refine r_end ?_ | (refine r_op ?_; refine r_pure hT rfl rfl rfl rfl rfl rfl ?_) | refine gi_plain ?_ | refine gi_inBlock ?_))
      refine next (h + 1, j) _ _ _ ⟨by simp only; omega, by simp only; omega, q3, fun u z u1 u2 hz => ?_, q5⟩ (by simp only; omega) ⟨?_, rfl, rfl, rfl, rfl, rfl, rfl, trivial⟩ trivial ⟨rfl, trivial⟩
      · simp only at u2
        have := h2.at (i := u) (j := h) u1 (by omega) (by omega) hz hy
        unfold kLt at *; omega
      · show some (I (wr .i64 ((h : Int) + 1))) = _
        rw [wadd1 (by omega)]
    · rw [cmpRt_lt] at h5
      (repeat (first | refine r_end ?_ | (refine r_op ?_; refine r_pure hT rfl rfl rfl rfl rfl rfl ?_) | refine gi_plain ?_ | refine gi_inBlock ?_))
      refine next (i, h) _ _ _ ⟨q1, by simp only; omega, by simp only; omega, q4, fun u z u1 u2 hz => ?_⟩ (by simp only; omega) ⟨rfl, rfl, rfl, rfl, rfl, rfl, rfl, trivial⟩ trivial ⟨rfl, trivial⟩
      simp only at u1
      exact kLe_tr h5 (h2.at (i := h) (j := u) (by omega) u1 u2 hy hz)
  have hij : i = j := by omega
  subst hij
  clear next
  (repeat (first | refine r_end ?_ | (refine r_op ?_; refine r_pure hT rfl rfl rfl rfl rfl rfl ?_) | refine gi_seq ?_ | refine gi_plain ?_ | refine gi_block ?_ | refine gi_exit rfl ?_))
  refine gi_loop (σ := Nat × List Rt) (fun s => [(13, I (s.1 : Int)), (10, I (i : Int)), (0, .sl 0)]) (fun _ => []) (fun s => [eRt s.2]) (fun s => a ≤ s.1 ∧ s.1 < i ∧ Seg a b l s.2 ∧ Up a s.1 l s.2) (fun s => i - s.1) (a, l) ⟨Nat.le_refl _, by simp only; omega, Seg.rfl, Up.start⟩ ⟨rfl, rfl, rfl, trivial⟩ trivial ⟨rfl, trivial⟩ (fun _ => rfl) (fun s hs next => ?_)
  obtain ⟨k, q⟩ := s
  obtain ⟨k1, k2, k3, k4⟩ := hs
  simp only at k1 k2 k3 k4
  have hql := k4.len
  (repeat (first | refine r_end ?_ | (refine r_op ?_; refine r_pure hT rfl rfl rfl rfl rfl rfl ?_) | refine gi_seq ?_ | refine gi_plain ?_))
  refine gi_lt (p := (k : Int)) (q := wr .i64 ((i : Int) - 1)) rfl (fun h5 => ?_) (fun h5 => ?_)
  · rw [wr_i64 (by omega) (by omega)] at h5
    obtain ⟨y, hy⟩ : ∃ y, l[k + 1]? = some y := ⟨_, List.getElem?_eq_getElem (by omega)⟩
    obtain ⟨g1, g2⟩ := k4.at k1
    rw [hx] at g1
    rw [hy] at g2
    have hlt := q4 (k + 1) y (by omega) (by omega) hy
    have e1 := wadd1 (a := k) (by omega)
    (repeat (first | refine gi_seq ?_ | refine gi_skip ?_ | refine gi_block ?_))
    refine gi_drawM [15, 17] [(0, .p), (1, .p), (2, .p), (3, .p), (4, .p), (5, .p), (6, .p), (7, .p), (8, .p), (10, .p), (11, .p), (12, .p), (9, .t), (13, .t), (14, .p), (15, .l), (16, .p), (17, .l)] [0, 0, 0, 0, 8, 0, 0, 64, 160, 256, 0, 0, 3072, 4096, 9187, 25571, 65535, 131071] [0, 0, 0, 0, 8, 0, 0, 64, 160, 256, 0, 0, 3072, 4096, 3, 16896, 20, 73728] Kt.hm rfl (by kernel_rfl) (fun w1 K => ?_)
    (repeat ((refine r_op ?_; refine r_pure hT rfl rfl rfl rfl rfl rfl ?_)))
    refine r_turn (d := 65) (y := I ((k + 1 : Nat) : Int)) rfl (by rw [e1]) ?_
    refine r_turn (d := 68) (y := I ((k + 1 : Nat) : Int)) rfl (by rw [e1]) ?_
    refine r_idxS hT rfl rfl rfl rfl rfl rfl rfl rfl rfl rfl rfl rfl rfl (nn (k + 1)) (row_lt (l := q) (by omega)) ?_
    (repeat ((refine r_op ?_; refine r_pure hT rfl rfl rfl rfl rfl rfl ?_)))
    refine r_idxS hT rfl rfl rfl rfl rfl rfl rfl rfl rfl rfl rfl rfl rfl (nn k) (row_lt (l := q) (by omega)) ?_
    skip
    refine r_loadS (row := y.row) hT rfl rfl rfl rfl rfl rfl rfl rfl (row_at g2) rfl rfl rfl ?_
    skip
    refine r_loadS (row := x.row) hT rfl rfl rfl rfl rfl rfl rfl rfl (row_at g1) rfl rfl rfl ?_
    skip
    refine r_idxS hT rfl rfl rfl rfl rfl rfl rfl rfl rfl rfl rfl rfl rfl (nn k) (row_lt (l := q) (by omega)) ?_
    skip
    refine r_storeS (row := x.row) hT rfl rfl rfl rfl rfl rfl rfl rfl rfl rfl rfl rfl rfl (row_at g1) ?_
    skip
    refine r_idxS hT rfl rfl rfl rfl rfl rfl rfl rfl rfl rfl rfl rfl rfl (nn (k + 1)) (row_lts (l := q) (by omega)) ?_
    skip
    refine r_storeS (row := y.row) hT rfl rfl rfl rfl rfl rfl rfl rfl rfl rfl rfl rfl rfl (by show (List.set (q.map Rt.row) ((k : Nat) : Int).toNat _)[((k + 1 : Nat) : Int).toNat]? = _; rw [List.getElem?_set_ne (by rw [Int.toNat_natCast, Int.toNat_natCast]; omega)]; exact row_at g2) ?_
    (repeat (first | refine r_end ?_ | (refine r_op ?_; refine r_pure hT rfl rfl rfl rfl rfl rfl ?_) | refine gi_plain ?_ | refine gi_inBlock ?_))
    refine next (k + 1, swpL q k x y) _ _ _ ⟨by simp only; omega, by simp only; omega, k3.trans (Seg.swap k1 (by omega) g1 g2 (Ne.symm (kLt_ne hlt))), k4.step k1 hx hy⟩ (by simp only; omega) ⟨?_, rfl, rfl, trivial⟩ trivial ⟨?_, trivial⟩
    · show some (I (wr .i64 ((k : Int) + 1))) = _
      rw [e1]
    · refine congrArg (fun L => some (⟨tRt, 5, L, false⟩ : SE)) ?_
      symm
      show List.set (List.set (q.map Rt.row) ((k : Nat) : Int).toNat y.row) ((k + 1 : Nat) : Int).toNat x.row = (swpL q k x y).map Rt.row
      rw [Int.toNat_natCast, Int.toNat_natCast, set_row, set_row, List.set_comm _ _ (by omega)]
  · rw [wr_i64 (by omega) (by omega)] at h5
    have hki : i = k + 1 := by omega
    subst hki
    (repeat (refine gi_exit rfl ?_))
    refine gi_retX hT Try.func98 rfl [] [0] rfl rfl rfl rfl rfl rfl rfl rfl ?_
    refine ⟨rfl, rfl, _, rfl, by rw [List.length_map, List.length_map, hql], pl_Rt q, q, rfl, k3, ?_⟩
    subst ham
    exact k4.sorted k1 hx h2 q4 q5 (by omega)
end Go.Proofs.Ytmocggibcniggaa.Kt
namespace Go.Proofs.Ytmocggibcniggaa.Kt
open Go Kw Go.Proofs
attribute [local irreducible] Kw.GI Kw.GR Kw.FnR Kw.FnX Kw.FnI
set_option maxHeartbeats 16000000
set_option maxRecDepth 100000
theorem symB_ok (l : List Rt) (a m b : Nat) (ham : a + 1 < m) (hmb : m + 1 = b) (hb : b ≤ l.length) (hl : l.length < 100000000) (h1 : Srt a m l) : FnI Try.prog 98 [.sl 0, I (a : Int), I (m : Int), I (b : Int), aCmp] tRt 5 (l.map Rt.row) (RSrt a b l) := by
  obtain ⟨x, hx⟩ : ∃ x, l[m]? = some x := ⟨_, List.getElem?_eq_getElem (by omega)⟩
  refine fnI_intro (T := TT) (n := 220) Try.func98 rfl rfl rfl (fun w X Z Y B V => ?_)
  (repeat (first | refine r_end ?_ | (refine r_op ?_; refine r_pure hT rfl rfl rfl rfl rfl rfl ?_) | refine gi_seq ?_ | refine gi_plain ?_))
  refine gi_known (d := 28) (b := false) rfl (by rw [wsub (c := m - a) (by omega) (by omega), eqB_eq]; exact decide_eq_false (by omega)) ?_
  (repeat (first | refine r_end ?_ | (refine r_op ?_; refine r_pure hT rfl rfl rfl rfl rfl rfl ?_) | refine gi_seq ?_ | refine gi_plain ?_ | refine gi_skip ?_ | (refine gi_cnd ?_; first | refine gi_true rfl ?_ | refine gi_false rfl ?_)))
  refine gi_known (d := 80) (b := true) rfl (by rw [wsub (c := 1) (by omega) (by omega), eqB_eq]; rfl) ?_
  (repeat (first | refine r_end ?_ | (refine r_op ?_; refine r_pure hT rfl rfl rfl rfl rfl rfl ?_) | refine gi_seq ?_ | refine gi_plain ?_ | refine gi_block ?_ | (refine gi_cnd ?_; first | refine gi_true rfl ?_ | refine gi_false rfl ?_)))
  refine gi_loop (σ := Nat × Nat) (fun s => [(14, I (s.1 : Int)), (15, I (s.2 : Int)), (0, .sl 0), (1, I (a : Int)), (2, I (m : Int)), (3, I (b : Int)), (4, aCmp)]) (fun _ => []) (fun _ => [eRt l]) (fun s => a ≤ s.1 ∧ s.1 ≤ s.2 ∧ s.2 ≤ m ∧ (∀ u y, a ≤ u → u < s.1 → l[u]? = some y → ¬ kLt x y) ∧ ∀ u y, s.2 ≤ u → u < m → l[u]? = some y → kLt x y) (fun s => s.2 - s.1) (a, m) ⟨Nat.le_refl _, by simp only; omega, Nat.le_refl _, fun u y h3 h4 => by simp only at h4; omega, fun u y h3 h4 => by simp only at h3; omega⟩ ⟨rfl, rfl, rfl, rfl, rfl, rfl, rfl, trivial⟩ trivial ⟨rfl, trivial⟩ (fun _ => rfl) (fun s hs next => ?_)
  obtain ⟨i, j⟩ := s
  obtain ⟨q1, q2, q3, q4, q5⟩ := hs
  simp only at q1 q2 q3 q4 q5
  (repeat (first | refine r_end ?_ | (refine r_op ?_; refine r_pure hT rfl rfl rfl rfl rfl rfl ?_) | refine gi_seq ?_ | refine gi_plain ?_))
  refine gi_lt (p := (i : Int)) (q := (j : Int)) rfl (fun h4 => ?_) (fun h4 => ?_)
  · have hij : i < j := by omega
    obtain ⟨h, hh⟩ : ∃ h, h = (i + j) / 2 := ⟨_, rfl⟩
    have hhl : h < l.length := by omega
    obtain ⟨y, hy⟩ : ∃ y, l[h]? = some y := ⟨_, List.getElem?_eq_getElem hhl⟩
    (repeat (first | (refine r_op ?_; refine r_pure hT rfl rfl rfl rfl rfl rfl ?_) | refine gi_seq ?_ | refine gi_plain ?_ | refine gi_skip ?_ | refine gi_block ?_))
    refine r_shr (n := ((h : Nat) : Int)) rfl rfl rfl rfl rfl rfl rfl rfl (by decide) (by rw [hh]; exact half (by omega)) ?_
    (repeat (first | refine r_end ?_ | (refine r_op ?_; refine r_pure hT rfl rfl rfl rfl rfl rfl ?_) | refine gi_seq ?_))
    refine gi_turn (d := 16) (y := I (h : Int)) rfl (by rw [wr_i64 (by omega) (by omega)]) ?_
    refine gi_drawM [] [(0, .p), (1, .p), (2, .p), (3, .p), (5, .p), (6, .p), (7, .p), (4, .t), (8, .t), (9, .o), (10, .p), (11, .p)] [0, 0, 0, 6, 8, 0, 0, 96, 128, 273, 512, 1024] [0, 0, 0, 6, 8, 0, 0, 96, 128, 273, 512, 1024] Kt.hm rfl (by kernel_rfl) (fun w1 K => ?_)
    (repeat ((refine r_op ?_; refine r_pure hT rfl rfl rfl rfl rfl rfl ?_)))
    refine r_idxS hT rfl rfl rfl rfl rfl rfl rfl rfl rfl rfl rfl rfl rfl (nn m) (row_lt (l := l) (by omega)) ?_
    (repeat ((refine r_op ?_; refine r_pure hT rfl rfl rfl rfl rfl rfl ?_)))
    refine r_idxS hT rfl rfl rfl rfl rfl rfl rfl rfl rfl rfl rfl rfl rfl (nn h) (row_lt hhl) ?_
    skip
    refine r_loadS (row := x.row) hT rfl rfl rfl rfl rfl rfl rfl rfl (row_at hx) rfl rfl rfl ?_
    skip
    refine r_loadS (row := y.row) hT rfl rfl rfl rfl rfl rfl rfl rfl (row_at hy) rfl rfl rfl ?_
    skip
    refine r_call (cmp_ok x y) rfl rfl rfl rfl rfl rfl rfl rfl Try.func64 rfl rfl rfl pI ?_
    rintro r S1 ⟨rfl, rfl⟩
    (repeat (first | refine r_end ?_ | (refine r_op ?_; refine r_pure hT rfl rfl rfl rfl rfl rfl ?_)))
    refine gi_cond rfl (fun h5 => ?_) (fun h5 => ?_)
    · rw [notB_eq, ltB_eq, Bool.not_eq_true'] at h5
      have h5 := of_decide_eq_false h5
      rw [cmpRt_lt] at h5
      (repeat (first | refine r_end ?_ | (refine r_op ?_; refine r_pure hT rfl rfl rfl rfl rfl rfl ?_) | refine gi_plain ?_ | refine gi_inBlock ?_))
      refine next (h + 1, j) _ _ _ ⟨by simp only; omega, by simp only; omega, q3, fun u z u1 u2 hz => ?_, q5⟩ (by simp only; omega) ⟨?_, rfl, rfl, rfl, rfl, rfl, rfl, trivial⟩ trivial ⟨rfl, trivial⟩
      · simp only at u2
        exact kLe_tr (h1.at (i := u) (j := h) u1 (by omega) (by omega) hz hy) h5
      · show some (I (wr .i64 ((h : Int) + 1))) = _
        rw [wadd1 (by omega)]
    · rw [notB_eq, ltB_eq, Bool.not_eq_false'] at h5
      have h5 := of_decide_eq_true h5
      rw [cmpRt_lt] at h5
      (repeat (first | refine r_end ?_ | (refine r_op ?_; refine r_pure hT rfl rfl rfl rfl rfl rfl ?_) | refine gi_plain ?_ | refine gi_inBlock ?_))
      refine next (i, h) _ _ _ ⟨q1, by simp only; omega, by simp only; omega, q4, fun u z u1 u2 hz => ?_⟩ (by simp only; omega) ⟨rfl, rfl, rfl, rfl, rfl, rfl, rfl, trivial⟩ trivial ⟨rfl, trivial⟩
      simp only at u1
      have := h1.at (i := h) (j := u) (by omega) u1 u2 hy hz
      unfold kLt at *; omega
  have hij : i = j := by omega
  subst hij
  clear next
  (repeat (first | refine r_end ?_ | (refine r_op ?_; refine r_pure hT rfl rfl rfl rfl rfl rfl ?_) | refine gi_seq ?_ | refine gi_plain ?_ | refine gi_block ?_ | refine gi_exit rfl ?_))
  refine gi_loop (σ := Nat × List Rt) (fun s => [(17, I (s.1 : Int)), (14, I (i : Int)), (0, .sl 0)]) (fun _ => []) (fun s => [eRt s.2]) (fun s => i ≤ s.1 ∧ s.1 ≤ m ∧ Seg a b l s.2 ∧ Dn s.1 m l s.2) (fun s => s.1) (m, l) ⟨by simp only; omega, Nat.le_refl _, Seg.rfl, Dn.start⟩ ⟨rfl, rfl, rfl, trivial⟩ trivial ⟨rfl, trivial⟩ (fun _ => rfl) (fun s hs next => ?_)
  obtain ⟨k, q⟩ := s
  obtain ⟨k1, k2, k3, k4⟩ := hs
  simp only at k1 k2 k3 k4
  have hql := k4.len
  (repeat (first | refine r_end ?_ | (refine r_op ?_; refine r_pure hT rfl rfl rfl rfl rfl rfl ?_) | refine gi_seq ?_ | refine gi_plain ?_))
  refine gi_lt (p := (i : Int)) (q := (k : Int)) rfl (fun h5 => ?_) (fun h5 => ?_)
  · obtain ⟨k, rfl⟩ : ∃ k', k = k' + 1 := ⟨k - 1, by omega⟩
    obtain ⟨y, hy⟩ : ∃ y, l[k]? = some y := ⟨_, List.getElem?_eq_getElem (by omega)⟩
    obtain ⟨g1, g2⟩ := k4.at k2
    rw [hx] at g1
    rw [hy] at g2
    have hlt := q5 k y (by omega) (by omega) hy
    have e1 := wsub1 (a := k) (by omega)
    (repeat (first | refine gi_seq ?_ | refine gi_skip ?_ | refine gi_block ?_))
    refine gi_drawM [15, 17] [(0, .p), (1, .p), (2, .p), (3, .p), (4, .p), (5, .p), (6, .p), (7, .p), (8, .p), (10, .p), (11, .p), (12, .p), (9, .t), (13, .t), (14, .p), (15, .l), (16, .p), (17, .l)] [0, 0, 0, 0, 8, 0, 0, 64, 160, 256, 0, 0, 3072, 4096, 9187, 25571, 65535, 131071] [0, 0, 0, 0, 8, 0, 0, 64, 160, 256, 0, 0, 3072, 4096, 3, 16896, 20, 73728] Kt.hm rfl (by kernel_rfl) (fun w1 K => ?_)
    (repeat ((refine r_op ?_; refine r_pure hT rfl rfl rfl rfl rfl rfl ?_)))
    refine r_turn (d := 117) (y := I ((k : Nat) : Int)) rfl (by rw [e1]) ?_
    refine r_turn (d := 120) (y := I ((k : Nat) : Int)) rfl (by rw [e1]) ?_
    refine r_idxS hT rfl rfl rfl rfl rfl rfl rfl rfl rfl rfl rfl rfl rfl (nn k) (row_lt (l := q) (by omega)) ?_
    (repeat ((refine r_op ?_; refine r_pure hT rfl rfl rfl rfl rfl rfl ?_)))
    refine r_idxS hT rfl rfl rfl rfl rfl rfl rfl rfl rfl rfl rfl rfl rfl (nn (k + 1)) (row_lt (l := q) (by omega)) ?_
    skip
    refine r_loadS (row := y.row) hT rfl rfl rfl rfl rfl rfl rfl rfl (row_at g2) rfl rfl rfl ?_
    skip
    refine r_loadS (row := x.row) hT rfl rfl rfl rfl rfl rfl rfl rfl (row_at g1) rfl rfl rfl ?_
    skip
    refine r_idxS hT rfl rfl rfl rfl rfl rfl rfl rfl rfl rfl rfl rfl rfl (nn (k + 1)) (row_lt (l := q) (by omega)) ?_
    skip
    refine r_storeS (row := x.row) hT rfl rfl rfl rfl rfl rfl rfl rfl rfl rfl rfl rfl rfl (row_at g1) ?_
    skip
    refine r_idxS hT rfl rfl rfl rfl rfl rfl rfl rfl rfl rfl rfl rfl rfl (nn k) (row_lts (l := q) (by omega)) ?_
    skip
    refine r_storeS (row := y.row) hT rfl rfl rfl rfl rfl rfl rfl rfl rfl rfl rfl rfl rfl (by show (List.set (q.map Rt.row) ((k + 1 : Nat) : Int).toNat _)[((k : Nat) : Int).toNat]? = _; rw [List.getElem?_set_ne (by rw [Int.toNat_natCast, Int.toNat_natCast]; omega)]; exact row_at g2) ?_
    (repeat (first | refine r_end ?_ | (refine r_op ?_; refine r_pure hT rfl rfl rfl rfl rfl rfl ?_) | refine gi_plain ?_ | refine gi_inBlock ?_))
    refine next (k, swpL q k y x) _ _ _ ⟨by simp only; omega, by simp only; omega, k3.trans (Seg.swap (by omega) (by omega) g2 g1 (Ne.symm (kLt_ne hlt))), k4.step k2 hx hy⟩ (by simp only; omega) ⟨?_, rfl, rfl, trivial⟩ trivial ⟨?_, trivial⟩
    · show some (I (wr .i64 (((k + 1 : Nat) : Int) - 1))) = _
      rw [e1]
    · refine congrArg (fun L => some (⟨tRt, 5, L, false⟩ : SE)) ?_
      symm
      show List.set (List.set (q.map Rt.row) ((k + 1 : Nat) : Int).toNat y.row) ((k : Nat) : Int).toNat x.row = (swpL q k y x).map Rt.row
      rw [Int.toNat_natCast, Int.toNat_natCast, set_row, set_row]
  · have hki : i = k := by omega
    subst hki
    (repeat (refine gi_exit rfl ?_))
    refine gi_retX hT Try.func98 rfl [] [0] rfl rfl rfl rfl rfl rfl rfl rfl ?_
    refine ⟨rfl, rfl, _, rfl, by rw [List.length_map, List.length_map, hql], pl_Rt q, q, rfl, k3, ?_⟩
    subst hmb
    exact k4.sorted (by omega) k2 hx h1 q4 q5
end Go.Proofs.Ytmocggibcniggaa.Kt
namespace Go.Proofs.Ytmocggibcniggaa.Kt
open Go Kw Go.Proofs
attribute [local irreducible] Kw.GI Kw.GR Kw.FnR Kw.FnX Kw.FnI
set_option maxHeartbeats 16000000
set_option maxRecDepth 100000
theorem cut_of {l : List Rt} {a m b d s0 r0 s : Nat} (hab : (d < m ∧ s0 + b = d + m ∧ r0 = d) ∨ (m ≤ d ∧ s0 = a ∧ r0 = m)) (hd : d = (a + b) / 2) (ham : a < m) (hmb : m < b) (h0 : s0 ≤ s) (h1 : s ≤ r0)
    (q1 : ∀ c x y, s0 ≤ c → c < s → l[c]? = some x → l[d + m - 1 - c]? = some y → ¬ kLt y x) (q2 : ∀ c x y, s ≤ c → c < r0 → l[c]? = some x → l[d + m - 1 - c]? = some y → kLt y x) : Cut a m b d s (d + m - s) l := by
  refine ⟨by omega, by omega, by omega, by omega, by omega, fun x y h2 h3 hx hy => ?_, fun x y h2 h3 hx hy => ?_⟩
  · exact q2 s x y (Nat.le_refl _) (by omega) hx (by rw [show d + m - 1 - s = d + m - s - 1 by omega]; exact hy)
  · exact q1 (s - 1) x y (by omega) (by omega) hx (by rw [show d + m - 1 - (s - 1) = d + m - s by omega]; exact hy)
theorem split4 {l : List Rt} {s m e : Nat} (h1 : s ≤ m) (h2 : m ≤ e) (h3 : e ≤ l.length) : ∃ P U V Q : List Rt, l = P ++ (U ++ (V ++ Q)) ∧ P.length = s ∧ P.length + U.length = m ∧ P.length + (U.length + V.length) = e := by
  refine ⟨l.take s, (l.drop s).take (m - s), (l.drop m).take (e - m), l.drop e, ?_, ?_, ?_, ?_⟩
  · conv => lhs; rw [split3 (l := l) (a := s) (b := m) h1]
    congr 2
    conv => lhs; rw [← List.take_append_drop (e - m) (l.drop m)]
    rw [List.drop_drop, show m + (e - m) = e by omega]
  all_goals simp only [List.length_take, List.length_drop]; omega
theorem sym_ok : ∀ (N : Nat) (l : List Rt) (a m b : Nat), b - a ≤ N → a < m → m < b → b ≤ l.length → l.length < 100000000 → Srt a m l → Srt m b l → FnI Try.prog 98 [.sl 0, I (a : Int), I (m : Int), I (b : Int), aCmp] tRt 5 (l.map Rt.row) (RSrt a b l) := by
  intro N
  induction N with
  | zero => intro l a m b hN ham hmb; omega
  | succ N ih =>
  intro l a m b hN ham hmb hb hl h1 h2
  by_cases e1 : a + 1 = m
  · exact symA_ok l a m b e1 hmb hb hl h2
  by_cases e2 : m + 1 = b
  · exact symB_ok l a m b (by omega) e2 hb hl h1
  obtain ⟨d, hd⟩ : ∃ d, d = (a + b) / 2 := ⟨_, rfl⟩
  refine fnI_intro (T := TT) (n := 220) Try.func98 rfl rfl rfl (fun w X Z Y B V => ?_)
  (repeat (first | refine r_end ?_ | (refine r_op ?_; refine r_pure hT rfl rfl rfl rfl rfl rfl ?_) | refine gi_seq ?_ | refine gi_plain ?_))
  refine gi_known (d := 28) (b := false) rfl (by rw [wsub (c := m - a) (by omega) (by omega), eqB_eq]; exact decide_eq_false (by omega)) ?_
  (repeat (first | refine r_end ?_ | (refine r_op ?_; refine r_pure hT rfl rfl rfl rfl rfl rfl ?_) | refine gi_seq ?_ | refine gi_plain ?_ | refine gi_skip ?_ | (refine gi_cnd ?_; first | refine gi_true rfl ?_ | refine gi_false rfl ?_)))
  refine gi_known (d := 80) (b := false) rfl (by rw [wsub (c := b - m) (by omega) (by omega), eqB_eq]; exact decide_eq_false (by omega)) ?_
  (repeat (first | (refine r_op ?_; refine r_pure hT rfl rfl rfl rfl rfl rfl ?_) | refine gi_seq ?_ | refine gi_plain ?_ | refine gi_skip ?_ | (refine gi_cnd ?_; first | refine gi_true rfl ?_ | refine gi_false rfl ?_)))
  refine r_shr (n := ((d : Nat) : Int)) rfl rfl rfl rfl rfl rfl rfl rfl (by decide) (by rw [hd]; exact half (by omega)) ?_
  (repeat (first | refine r_end ?_ | (refine r_op ?_; refine r_pure hT rfl rfl rfl rfl rfl rfl ?_) | refine gi_seq ?_))
  refine gi_turn (d := 18) (y := I (d : Int)) rfl (by rw [wr_i64 (by omega) (by omega)]) ?_
  (repeat (first | refine r_end ?_ | (refine r_op ?_; refine r_pure hT rfl rfl rfl rfl rfl rfl ?_) | refine gi_seq ?_ | refine gi_plain_ne 27 rfl ?_))
  refine gi_turn (d := 19) (y := I ((d + m : Nat) : Int)) rfl (by rw [wadd (c := d + m) rfl (by omega)]) ?_
  apply gi_cut (σ := Nat × Nat) (fun s => [(18, I (d : Int)), (19, I ((d + m : Nat) : Int)), (20, I (s.1 : Int)), (21, I (s.2 : Int)), (0, .sl 0), (1, I (a : Int)), (2, I (m : Int)), (3, I (b : Int)), (4, aCmp)]) (fun _ => []) (fun _ => [eRt l]) (fun s => (d < m ∧ s.1 + b = d + m ∧ s.2 = d) ∨ (m ≤ d ∧ s.1 = a ∧ s.2 = m)) (fun _ => rfl)
  case first =>
    intro fin
    (repeat (first | refine r_end ?_ | (refine r_op ?_; refine r_pure hT rfl rfl rfl rfl rfl rfl ?_) | refine gi_plain ?_))
    refine gi_lt (p := (d : Int)) (q := (m : Int)) rfl (fun h4 => ?_) (fun h4 => ?_)
    · (repeat (first | refine r_end ?_ | (refine r_op ?_; refine r_pure hT rfl rfl rfl rfl rfl rfl ?_) | refine gi_seq ?_ | refine gi_plain_ne 32 rfl ?_))
      refine fin (d + m - b, d) _ _ _ (.inl ⟨by omega, by simp only; omega, rfl⟩) ⟨rfl, rfl, ?_, rfl, rfl, rfl, rfl, rfl, rfl, trivial⟩ trivial ⟨rfl, trivial⟩
      show some (I (wr .i64 (((d + m : Nat) : Int) - (b : Int)))) = _
      rw [wsub (c := d + m - b) (by omega) (by omega)]
    · (repeat (first | refine r_end ?_ | (refine r_op ?_; refine r_pure hT rfl rfl rfl rfl rfl rfl ?_) | refine gi_seq ?_ | refine gi_plain_ne 32 rfl ?_))
      exact fin (a, m) _ _ _ (.inr ⟨by omega, rfl, rfl⟩) ⟨rfl, rfl, rfl, rfl, rfl, rfl, rfl, rfl, rfl, trivial⟩ trivial ⟨rfl, trivial⟩
  case after =>
  rintro ⟨s0, r0⟩ hrng
  simp only at hrng
  (repeat (first | refine r_end ?_ | (refine r_op ?_; refine r_pure hT rfl rfl rfl rfl rfl rfl ?_) | refine gi_seq ?_ | refine gi_plain ?_ | refine gi_block ?_))
  refine gi_loop (σ := Nat × Nat) (fun s => [(20, I (s.1 : Int)), (21, I (s.2 : Int)), (22, I ((d + m - 1 : Nat) : Int)), (18, I (d : Int)), (19, I ((d + m : Nat) : Int)), (0, .sl 0), (1, I (a : Int)), (2, I (m : Int)), (3, I (b : Int)), (4, aCmp)]) (fun _ => []) (fun _ => [eRt l]) (fun s => s0 ≤ s.1 ∧ s.1 ≤ s.2 ∧ s.2 ≤ r0 ∧ (∀ c x y, s0 ≤ c → c < s.1 → l[c]? = some x → l[d + m - 1 - c]? = some y → ¬ kLt y x) ∧ ∀ c x y, s.2 ≤ c → c < r0 → l[c]? = some x → l[d + m - 1 - c]? = some y → kLt y x) (fun s => s.2 - s.1) (s0, r0) ⟨Nat.le_refl _, by simp only; omega, Nat.le_refl _, fun c x y h3 h4 => by simp only at h4; omega, fun c x y h3 h4 => by simp only at h3; omega⟩ ⟨rfl, rfl, ?_, rfl, rfl, rfl, rfl, rfl, rfl, rfl, trivial⟩ trivial ⟨rfl, trivial⟩ (fun _ => rfl) (fun s hs next => ?_)
  · show some (I (wr .i64 (((d + m : Nat) : Int) - 1))) = _
    have := wsub (a := d + m) (b := 1) (c := d + m - 1) (by omega) (by omega)
    rw [show ((d + m : Nat) : Int) - 1 = ((d + m : Nat) : Int) - ((1 : Nat) : Int) from rfl, this]
  obtain ⟨s, r⟩ := s
  obtain ⟨q1, q2, q3, q4, q5⟩ := hs
  simp only at q1 q2 q3 q4 q5
  (repeat (first | refine r_end ?_ | (refine r_op ?_; refine r_pure hT rfl rfl rfl rfl rfl rfl ?_) | refine gi_seq ?_ | refine gi_plain ?_))
  refine gi_lt (p := (s : Int)) (q := (r : Int)) rfl (fun h4 => ?_) (fun h4 => ?_)
  · have hsr : s < r := by omega
    obtain ⟨c, hc⟩ : ∃ c, c = (s + r) / 2 := ⟨_, rfl⟩
    obtain ⟨f, hf⟩ : ∃ f, f = d + m - 1 - c := ⟨_, rfl⟩
    have hcb : a ≤ c ∧ c < m ∧ m ≤ f ∧ f < b := by omega
    obtain ⟨x, hx⟩ : ∃ x, l[c]? = some x := ⟨_, List.getElem?_eq_getElem (by omega)⟩
    obtain ⟨y, hy⟩ : ∃ y, l[f]? = some y := ⟨_, List.getElem?_eq_getElem (by omega)⟩
    (repeat (first | (refine r_op ?_; refine r_pure hT rfl rfl rfl rfl rfl rfl ?_) | refine gi_seq ?_ | refine gi_plain ?_ | refine gi_skip ?_ | refine gi_block ?_))
    refine r_shr (n := ((c : Nat) : Int)) rfl rfl rfl rfl rfl rfl rfl rfl (by decide) (by rw [hc]; exact half (by omega)) ?_
    (repeat (first | refine r_end ?_ | (refine r_op ?_; refine r_pure hT rfl rfl rfl rfl rfl rfl ?_) | refine gi_seq ?_))
    refine gi_turn (d := 23) (y := I (c : Int)) rfl (by rw [wr_i64 (by omega) (by omega)]) ?_
    refine gi_drawM [] [(0, .p), (1, .p), (2, .p), (3, .p), (4, .p), (5, .p), (7, .p), (8, .p), (9, .p), (6, .t), (10, .t), (11, .o), (12, .p), (13, .p)] [0, 0, 0, 0, 12, 18, 32, 0, 0, 384, 512, 1089, 2048, 4096] [0, 0, 0, 0, 12, 18, 32, 0, 0, 384, 512, 1089, 2048, 4096] Kt.hm rfl (by kernel_rfl) (fun w1 K => ?_)
    (repeat ((refine r_op ?_; refine r_pure hT rfl rfl rfl rfl rfl rfl ?_)))
    refine r_turn (d := 162) (y := I (f : Int)) rfl (by rw [wsub (c := f) (by omega) (by omega)]) ?_
    refine r_idxS hT rfl rfl rfl rfl rfl rfl rfl rfl rfl rfl rfl rfl rfl (nn f) (row_lt (l := l) (by omega)) ?_
    (repeat ((refine r_op ?_; refine r_pure hT rfl rfl rfl rfl rfl rfl ?_)))
    refine r_idxS hT rfl rfl rfl rfl rfl rfl rfl rfl rfl rfl rfl rfl rfl (nn c) (row_lt (l := l) (by omega)) ?_
    skip
    refine r_loadS (row := y.row) hT rfl rfl rfl rfl rfl rfl rfl rfl (row_at hy) rfl rfl rfl ?_
    skip
    refine r_loadS (row := x.row) hT rfl rfl rfl rfl rfl rfl rfl rfl (row_at hx) rfl rfl rfl ?_
    skip
    refine r_call (cmp_ok y x) rfl rfl rfl rfl rfl rfl rfl rfl Try.func64 rfl rfl rfl pI ?_
    rintro r' S1 ⟨rfl, rfl⟩
    (repeat (first | refine r_end ?_ | (refine r_op ?_; refine r_pure hT rfl rfl rfl rfl rfl rfl ?_)))
    refine gi_cond rfl (fun h5 => ?_) (fun h5 => ?_)
    · rw [notB_eq, ltB_eq, Bool.not_eq_true'] at h5
      have h5 := of_decide_eq_false h5
      rw [cmpRt_lt] at h5
      (repeat (first | refine r_end ?_ | (refine r_op ?_; refine r_pure hT rfl rfl rfl rfl rfl rfl ?_) | refine gi_plain ?_ | refine gi_inBlock ?_))
      refine next (c + 1, r) _ _ _ ⟨by simp only; omega, by simp only; omega, q3, fun u p t u1 u2 hp ht => ?_, q5⟩ (by simp only; omega) ⟨?_, rfl, rfl, rfl, rfl, rfl, rfl, rfl, rfl, rfl, trivial⟩ trivial ⟨rfl, trivial⟩
      · simp only at u2
        exact kLe_tr (h1.at (i := u) (j := c) (by omega) (by omega) (by omega) hp hx) (kLe_tr h5 (h2.at (i := f) (j := d + m - 1 - u) (by omega) (by omega) (by omega) hy ht))
      · show some (I (wr .i64 ((c : Int) + 1))) = _
        rw [wadd1 (by omega)]
    · rw [notB_eq, ltB_eq, Bool.not_eq_false'] at h5
      have h5 := of_decide_eq_true h5
      rw [cmpRt_lt] at h5
      (repeat (first | refine r_end ?_ | (refine r_op ?_; refine r_pure hT rfl rfl rfl rfl rfl rfl ?_) | refine gi_plain ?_ | refine gi_inBlock ?_))
      refine next (s, c) _ _ _ ⟨q1, by simp only; omega, by simp only; omega, q4, fun u p t u1 u2 hp ht => ?_⟩ (by simp only; omega) ⟨rfl, rfl, rfl, rfl, rfl, rfl, rfl, rfl, rfl, rfl, trivial⟩ trivial ⟨rfl, trivial⟩
      simp only at u1
      have g1 := h1.at (i := c) (j := u) (by omega) u1 (by omega) hx hp
      have g2 := h2.at (i := d + m - 1 - u) (j := f) (by omega) (by omega) (by omega) ht hy
      unfold kLt at *; omega
  have hsr : s = r := by omega
  subst hsr
  clear next
  have hcut := cut_of hrng hd ham hmb q1 q3 q4 q5
  obtain ⟨e, he⟩ : ∃ e, e = d + m - s := ⟨_, rfl⟩
  rw [← he] at hcut
  have k1 := hcut.sum
  have k2 := hcut.sa
  have k3 := hcut.sm
  have k4 := hcut.me
  have k5 := hcut.eb
  (repeat (first | refine r_end ?_ | (refine r_op ?_; refine r_pure hT rfl rfl rfl rfl rfl rfl ?_) | refine gi_seq ?_ | refine gi_plain_ne 39 rfl ?_ | refine gi_exit rfl ?_))
  refine gi_turn (d := 24) (y := I (e : Int)) rfl (by rw [wsub (c := e) (by omega) (by omega)]) ?_
  refine gi_weak (F' := [(18, I (d : Int)), (20, I (s : Int)), (24, I (e : Int)), (0, .sl 0), (1, I (a : Int)), (2, I (m : Int)), (3, I (b : Int)), (4, aCmp)]) (H' := []) (S' := [eRt l]) ⟨rfl, rfl, rfl, rfl, rfl, rfl, rfl, rfl, trivial⟩ trivial ⟨rfl, trivial⟩ rfl ?_
  apply gi_cut (σ := List Rt) (fun _ => [(18, I (d : Int)), (20, I (s : Int)), (24, I (e : Int)), (0, .sl 0), (1, I (a : Int)), (2, I (m : Int)), (3, I (b : Int)), (4, aCmp)]) (fun _ => []) (fun q => [eRt q]) (fun q => Seg a b l q ∧ Halves a m b d s e q) (fun _ => rfl)
  case first =>
    intro fin
    (repeat (first | (refine r_op ?_; refine r_pure hT rfl rfl rfl rfl rfl rfl ?_) | refine gi_plain ?_))
    refine r_case (d := 181) rfl (fun c1 => ?_) (fun c1 => ?_)
    · rw [ltB_eq] at c1
      have c1 := of_decide_eq_true c1
      (repeat (first | refine r_end ?_ | (refine r_op ?_; refine r_pure hT rfl rfl rfl rfl rfl rfl ?_)))
      refine gi_lt (p := (m : Int)) (q := (e : Int)) rfl (fun c2 => ?_) (fun c2 => ?_)
      · obtain ⟨P, U, V', Q, hL, p1, p2, p3⟩ := split4 (l := l) k3 k4 (by omega)
        subst hL
        have hlen : P.length + (U.length + (V'.length + Q.length)) < 100000000 := by simp only [List.length_append] at hl; exact hl
        have spec := rot_ok P U V' Q s m e p1.symm p2.symm p3.symm (by omega) (by omega) hlen
        have hseg := hcut.seg h1 h2 hb p1 p2 p3
        have hrot := rot_get (P := P) (U := U) (V := V') (Q := Q)
        rw [p1, ← p1, p2, p3, p1, show s + V'.length = d by omega] at hrot
        have hhal := hcut.halves h1 h2 hb hrot
        (repeat (first | (refine r_op ?_; refine r_pure hT rfl rfl rfl rfl rfl rfl ?_) | refine gi_plain ?_))
        refine r_callI 0 (spec) rfl rfl rfl rfl rfl rfl Try.func110 rfl rfl rfl rfl ?_
        intro L' hl' hL'
        subst hL'
        (repeat (first | refine r_end ?_ | refine gi_seq ?_))
        exact fin _ _ _ _ ⟨hseg, hhal⟩ ⟨rfl, rfl, rfl, rfl, rfl, rfl, rfl, rfl, trivial⟩ trivial ⟨rfl, trivial⟩
      · (repeat (first | refine gi_seq ?_ | refine gi_skip ?_))
        exact fin l _ _ _ ⟨Seg.rfl, hcut.halves h1 h2 hb (rot_same (by omega) (.inr (by omega)))⟩ ⟨rfl, rfl, rfl, rfl, rfl, rfl, rfl, rfl, trivial⟩ trivial ⟨rfl, trivial⟩
    · rw [ltB_eq] at c1
      have c1 := of_decide_eq_false c1
      (repeat (first | refine r_end ?_ | (refine r_op ?_; first | refine r_pure hT rfl rfl rfl rfl rfl rfl ?_ | refine r_off rfl rfl rfl rfl rfl ?_) | refine gi_seq ?_ | refine gi_skip ?_ | (refine gi_cnd ?_; first | refine gi_true rfl ?_ | refine gi_false rfl ?_)))
      exact fin l _ _ _ ⟨Seg.rfl, hcut.halves h1 h2 hb (rot_same (by omega) (.inl (by omega)))⟩ ⟨rfl, rfl, rfl, rfl, rfl, rfl, rfl, rfl, trivial⟩ trivial ⟨rfl, trivial⟩
  case after =>
  rintro q ⟨hseg, hhal⟩
  have hql := hseg.len
  apply gi_cut (σ := List Rt) (fun _ => [(18, I (d : Int)), (24, I (e : Int)), (0, .sl 0), (3, I (b : Int)), (4, aCmp)]) (fun _ => []) (fun q2 => [eRt q2]) (fun q2 => Seg a d q q2 ∧ Srt a d q2) (fun _ => rfl)
  case first =>
    intro fin
    (repeat (first | (refine r_op ?_; refine r_pure hT rfl rfl rfl rfl rfl rfl ?_) | refine gi_plain ?_))
    refine r_case (d := 195) rfl (fun c1 => ?_) (fun c1 => ?_)
    · rw [ltB_eq] at c1
      have c1 := of_decide_eq_true c1
      (repeat (first | refine r_end ?_ | (refine r_op ?_; refine r_pure hT rfl rfl rfl rfl rfl rfl ?_)))
      refine gi_lt (p := (s : Int)) (q := (d : Int)) rfl (fun c2 => ?_) (fun c2 => ?_)
      · (repeat (first | (refine r_op ?_; refine r_pure hT rfl rfl rfl rfl rfl rfl ?_) | refine gi_plain ?_))
        refine r_callI 0 (ih q a s d (by omega) (by omega) (by omega) (by omega) (by omega) hhal.s1 hhal.s2) rfl rfl rfl rfl rfl rfl Try.func98 rfl rfl rfl rfl ?_
        rintro L' hl' ⟨q2, rfl, hs1, hs2⟩
        (repeat (first | refine r_end ?_ | refine gi_seq ?_))
        exact fin q2 _ _ _ ⟨hs1, hs2⟩ ⟨rfl, rfl, rfl, rfl, rfl, trivial⟩ trivial ⟨rfl, trivial⟩
      · (repeat (first | refine gi_seq ?_ | refine gi_skip ?_))
        exact fin q _ _ _ ⟨Seg.rfl, hhal.s1.sub (Nat.le_refl _) (by omega)⟩ ⟨rfl, rfl, rfl, rfl, rfl, trivial⟩ trivial ⟨rfl, trivial⟩
    · rw [ltB_eq] at c1
      have c1 := of_decide_eq_false c1
      (repeat (first | refine r_end ?_ | (refine r_op ?_; first | refine r_pure hT rfl rfl rfl rfl rfl rfl ?_ | refine r_off rfl rfl rfl rfl rfl ?_) | refine gi_seq ?_ | refine gi_skip ?_ | (refine gi_cnd ?_; first | refine gi_true rfl ?_ | refine gi_false rfl ?_)))
      exact fin q _ _ _ ⟨Seg.rfl, hhal.s2.sub (by omega) (Nat.le_refl _)⟩ ⟨rfl, rfl, rfl, rfl, rfl, trivial⟩ trivial ⟨rfl, trivial⟩
  case after =>
  rintro q2 ⟨hs1, hs2⟩
  have hql2 := hs1.len
  have h3 : Srt d e q2 := hhal.s3.same (fun u hu _ => hs1.hi u hu)
  have h4 : Srt e b q2 := hhal.s4.same (fun u hu _ => hs1.hi u (by omega))
  have done : ∀ q3, Seg d b q2 q3 → Srt d b q3 → InPost tRt 5 (l.map Rt.row).length (RSrt a b l) (.tup []) [] [eRt q3] := fun q3 g1 g2 => by
    obtain ⟨w1, w2⟩ := hhal.done (by omega) (by omega) hs1 hs2 g1 g2
    exact ⟨rfl, rfl, _, rfl, by rw [List.length_map, List.length_map, g1.len, hql2, hql], pl_Rt q3, q3, rfl, hseg.trans w1, w2⟩
  (repeat (first | (refine r_op ?_; refine r_pure hT rfl rfl rfl rfl rfl rfl ?_) | refine gi_plain ?_))
  refine r_case (d := 209) rfl (fun c1 => ?_) (fun c1 => ?_)
  · rw [ltB_eq] at c1
    have c1 := of_decide_eq_true c1
    (repeat (first | refine r_end ?_ | (refine r_op ?_; refine r_pure hT rfl rfl rfl rfl rfl rfl ?_)))
    refine gi_lt (p := (e : Int)) (q := (b : Int)) rfl (fun c2 => ?_) (fun c2 => ?_)
    · (repeat (first | (refine r_op ?_; refine r_pure hT rfl rfl rfl rfl rfl rfl ?_) | refine gi_plain ?_))
      refine r_callI 0 (ih q2 d e b (by omega) (by omega) (by omega) (by omega) (by omega) h3 h4) rfl rfl rfl rfl rfl rfl Try.func98 rfl rfl rfl rfl ?_
      rintro L' hl' ⟨q3, rfl, g1, g2⟩
      (repeat (refine r_end ?_))
      refine gi_finX hT Try.func98 rfl [] [0] rfl rfl rfl rfl rfl rfl rfl rfl ?_
      exact done q3 g1 g2
    · (repeat (refine gi_skip ?_))
      refine gi_finX hT Try.func98 rfl [] [0] rfl rfl rfl rfl rfl rfl rfl rfl ?_
      exact done q2 Seg.rfl (h3.sub (Nat.le_refl _) (by omega))
  · rw [ltB_eq] at c1
    have c1 := of_decide_eq_false c1
    (repeat (first | refine r_end ?_ | (refine r_op ?_; first | refine r_pure hT rfl rfl rfl rfl rfl rfl ?_ | refine r_off rfl rfl rfl rfl rfl ?_) | refine gi_skip ?_ | (refine gi_cnd ?_; first | refine gi_true rfl ?_ | refine gi_false rfl ?_)))
    refine gi_finX hT Try.func98 rfl [] [0] rfl rfl rfl rfl rfl rfl rfl rfl ?_
    exact done q2 Seg.rfl (h4.sub (by omega) (Nat.le_refl _))
end Go.Proofs.Ytmocggibcniggaa.Kt
namespace Go.Proofs.Ytmocggibcniggaa.Kt
open Go Kw Go.Proofs
attribute [local irreducible] Kw.GI Kw.GR Kw.FnR Kw.FnX Kw.FnI
set_option maxHeartbeats 16000000
set_option maxRecDepth 100000
theorem dv_lt {s u a : Nat} (h1 : s ∣ u) (h2 : s ∣ a) (h : u < a) : u + s ≤ a := by
  obtain ⟨j, rfl⟩ := h1
  obtain ⟨k, rfl⟩ := h2
  have : j < k := Nat.lt_of_mul_lt_mul_left h
  exact Nat.le_trans (Nat.le_of_eq (Nat.mul_succ s j).symm) (Nat.mul_le_mul_left s this)
/-- Each block of s is sorted. -/
def Blk (s n : Nat) (l : List Rt) : Prop := ∀ u, s ∣ u → Srt u (min (u + s) n) l
/-- Those of 2 s ahead of a are, behind it those of s. -/
structure Half (s a n : Nat) (l : List Rt) : Prop where
  dv : 2 * s ∣ a
  lo : ∀ u, 2 * s ∣ u → u < a → Srt u (u + 2 * s) l
  hi : ∀ u, s ∣ u → a ≤ u → Srt u (min (u + s) n) l
theorem Half.start {s n : Nat} {l : List Rt} (h : Blk s n l) : Half s 0 n l := ⟨Nat.dvd_zero _, fun u _ h => by omega, fun u hu _ => h u hu⟩
theorem Half.dvs {s a n : Nat} {l : List Rt} (h : Half s a n l) : s ∣ a := Nat.dvd_trans ⟨2, by omega⟩ h.dv
theorem Half.step {s a n : Nat} {l q : List Rt} (h : Half s a n l) (h1 : Seg a (a + 2 * s) l q) (h2 : Srt a (a + 2 * s) q) : Half s (a + 2 * s) n q := by
  refine ⟨Nat.dvd_add h.dv (Nat.dvd_refl _), fun u hu hua => ?_, fun u hu hua => ?_⟩
  · by_cases e : u < a
    · have := dv_lt hu h.dv e
      exact (h.lo u hu e).same (fun v _ hv => h1.lo v (by omega))
    · have : u = a := by
        rcases Nat.lt_or_ge a u with h3 | h3
        · have := dv_lt h.dv hu h3; omega
        · omega
      subst this
      exact h2
  · exact (h.hi u hu (by omega)).same (fun v hv _ => h1.hi v (by omega))
theorem Half.merge {s a n : Nat} {l : List Rt} (h : Half s a n l) {e : Nat} (h1 : a + s ≤ e) (h2 : e ≤ n) (h3 : e ≤ a + 2 * s) : Srt a (a + s) l ∧ Srt (a + s) e l := by
  refine ⟨(h.hi a h.dvs (Nat.le_refl _)).sub (Nat.le_refl _) (by omega), (h.hi (a + s) (Nat.dvd_add h.dvs (Nat.dvd_refl _)) (by omega)).sub (Nat.le_refl _) (by omega)⟩
theorem Half.done {s a n : Nat} {l q : List Rt} (h : Half s a n l) (han : n < a + 2 * s) (h1 : Seg a n l q) (h2 : Srt a n q) : Blk (2 * s) n q := by
  intro u hu
  by_cases e : u < a
  · have := dv_lt hu h.dv e
    exact ((h.lo u hu e).same (fun v _ hv => h1.lo v (by omega))).sub (Nat.le_refl _) (by omega)
  · rcases Nat.lt_or_ge a u with h3 | h3
    · have := dv_lt h.dv hu h3
      exact fun i j x y h1 h2 h3 => by omega
    · have : u = a := by omega
      subst this
      exact h2.sub (Nat.le_refl _) (by omega)
theorem stable_ok (l : List Rt) (hl : l.length < 100000000) : FnI Try.prog 86 [.sl 0, I (l.length : Int), aCmp] tRt 5 (l.map Rt.row) (RSrt 0 l.length l) := by
  obtain ⟨n, hn⟩ : ∃ n, n = l.length := ⟨_, rfl⟩
  rw [← hn]
  refine fnI_intro (T := TT) (n := 63) Try.func86 rfl rfl rfl (fun w X Z Y B V => ?_)
  (repeat (first | refine r_end ?_ | (refine r_op ?_; refine r_pure hT rfl rfl rfl rfl rfl rfl ?_) | refine gi_seq ?_ | refine gi_plain ?_ | refine gi_block ?_))
  apply gi_cut (σ := List Rt) (fun _ => [(6, I 20), (0, .sl 0), (1, I (n : Int)), (2, aCmp)]) (fun _ => []) (fun q => [eRt q]) (fun q => Seg 0 n l q ∧ Blk 20 n q) (fun _ => rfl)
  case first =>
    intro fin
    refine gi_loop (σ := Nat × List Rt) (fun s => [(7, I (s.1 : Int)), (8, I ((s.1 + 20 : Nat) : Int)), (6, I 20), (0, .sl 0), (1, I (n : Int)), (2, aCmp)]) (fun _ => []) (fun s => [eRt s.2]) (fun s => s.1 ≤ n ∧ 20 ∣ s.1 ∧ Seg 0 n l s.2 ∧ ∀ u, 20 ∣ u → u < s.1 → Srt u (u + 20) s.2) (fun s => n - s.1) (0, l) ⟨Nat.zero_le _, Nat.dvd_zero _, Seg.rfl, fun u _ h => by simp only at h; omega⟩ ⟨rfl, rfl, rfl, rfl, rfl, rfl, trivial⟩ trivial ⟨rfl, trivial⟩ (fun _ => rfl) (fun s hs next => ?_)
    obtain ⟨a, q⟩ := s
    obtain ⟨k1, k2, k3, k4⟩ := hs
    simp only at k1 k2 k3 k4
    have hql := k3.len
    (repeat (first | refine r_end ?_ | (refine r_op ?_; refine r_pure hT rfl rfl rfl rfl rfl rfl ?_) | refine gi_seq ?_ | refine gi_plain ?_))
    refine gi_le (p := ((a + 20 : Nat) : Int)) (q := (n : Int)) rfl (fun h3 => ?_) (fun h3 => ?_)
    · (repeat (first | (refine r_op ?_; refine r_pure hT rfl rfl rfl rfl rfl rfl ?_) | refine gi_seq ?_ | refine gi_plain ?_ | refine gi_skip ?_ | refine gi_block ?_))
      refine r_callI 0 (ins_ok q a (a + 20) (by omega) (by omega) (by omega)) rfl rfl rfl rfl rfl rfl Try.func97 rfl rfl rfl rfl ?_
      rintro L' hl' ⟨q', rfl, g1, g2⟩
      (repeat (first | refine r_end ?_ | (refine r_op ?_; refine r_pure hT rfl rfl rfl rfl rfl rfl ?_) | refine gi_seq ?_ | refine gi_plain ?_ | refine gi_inBlock ?_))
      refine next (a + 20, q') _ _ _ ⟨by simp only; omega, Nat.dvd_add k2 (Nat.dvd_refl _), k3.trans (g1.wide (Nat.zero_le _) (by omega)), fun u hu hua => ?_⟩ (by simp only; omega) ⟨rfl, ?_, rfl, rfl, rfl, rfl, trivial⟩ trivial ⟨rfl, trivial⟩
      · simp only at hua ⊢
        by_cases e : u < a
        · have := dv_lt hu k2 e
          exact (k4 u hu e).same (fun v _ hv => g1.lo v (by omega))
        · have : u = a := by
            rcases Nat.lt_or_ge a u with h3 | h3
            · have := dv_lt k2 hu h3; omega
            · omega
          subst this
          exact g2
      · show some (I (wr .i64 (((a + 20 : Nat) : Int) + 20))) = some (I ((a + 20 + 20 : Nat) : Int))
        rw [wr_i64 (by omega) (by omega)]
        rfl
    · clear next
      (repeat (first | (refine r_op ?_; refine r_pure hT rfl rfl rfl rfl rfl rfl ?_) | refine gi_seq ?_ | refine gi_plain ?_ | refine gi_exit rfl ?_))
      refine r_callI 0 (ins_ok q a n k1 (by omega) (by omega)) rfl rfl rfl rfl rfl rfl Try.func97 rfl rfl rfl rfl ?_
      rintro L' hl' ⟨q', rfl, g1, g2⟩
      (repeat (first | refine r_end ?_ | refine gi_block ?_))
      refine fin q' _ _ _ ⟨k3.trans (g1.wide (Nat.zero_le _) (Nat.le_refl _)), fun u hu => ?_⟩ ⟨rfl, rfl, rfl, rfl, trivial⟩ trivial ⟨rfl, trivial⟩
      by_cases e : u < a
      · have := dv_lt hu k2 e
        exact ((k4 u hu e).same (fun v _ hv => g1.lo v (by omega))).sub (Nat.le_refl _) (by omega)
      · rcases Nat.lt_or_ge a u with h3 | h3
        · have := dv_lt k2 hu h3
          exact fun i j x y h1 h2 h3 => by omega
        · have : u = a := by omega
          subst this
          exact g2.sub (Nat.le_refl _) (by omega)
  case after =>
  rintro q0 ⟨hs0, hb0⟩
  refine gi_loop (σ := Nat × List Rt) (fun s => [(6, I (s.1 : Int)), (0, .sl 0), (1, I (n : Int)), (2, aCmp)]) (fun _ => []) (fun s => [eRt s.2]) (fun s => 0 < s.1 ∧ Seg 0 n l s.2 ∧ Blk s.1 n s.2) (fun s => n - s.1) (20, q0) ⟨by simp only; omega, hs0, hb0⟩ ⟨rfl, rfl, rfl, rfl, trivial⟩ trivial ⟨rfl, trivial⟩ (fun _ => rfl) (fun s hs next => ?_)
  obtain ⟨s, q⟩ := s
  obtain ⟨k1, k2, k3⟩ := hs
  simp only at k1 k2 k3
  have hql := k2.len
  (repeat (first | refine r_end ?_ | (refine r_op ?_; refine r_pure hT rfl rfl rfl rfl rfl rfl ?_) | refine gi_seq ?_ | refine gi_plain ?_))
  refine gi_lt (p := (s : Int)) (q := (n : Int)) rfl (fun h3 => ?_) (fun h3 => ?_)
  · have hsn : s < n := by omega
    have e2 : wr .i64 (2 * (s : Int)) = ((2 * s : Nat) : Int) := by rw [wr_i64 (by omega) (by omega)]; omega
    have e3 : wr .i64 ((s : Int) * 2) = ((2 * s : Nat) : Int) := by rw [wr_i64 (by omega) (by omega)]; omega
    (repeat (first | refine r_end ?_ | (refine r_op ?_; refine r_pure hT rfl rfl rfl rfl rfl rfl ?_) | refine gi_seq ?_ | refine gi_plain ?_ | refine gi_skip ?_ | refine gi_block ?_))
    refine gi_loop (σ := Nat × List Rt) (fun r => [(7, I (r.1 : Int)), (8, I ((r.1 + 2 * s : Nat) : Int)), (6, I (s : Int)), (0, .sl 0), (1, I (n : Int)), (2, aCmp)]) (fun _ => []) (fun r => [eRt r.2]) (fun r => r.1 ≤ n ∧ Seg 0 n l r.2 ∧ Half s r.1 n r.2) (fun r => n - r.1) (0, q) ⟨Nat.zero_le _, k2, Half.start k3⟩ ⟨rfl, ?_, rfl, rfl, rfl, rfl, trivial⟩ trivial ⟨rfl, trivial⟩ (fun _ => rfl) (fun r hr next2 => ?_)
    · show some (I (wr .i64 (2 * (s : Int)))) = some (I ((0 + 2 * s : Nat) : Int))
      rw [e2, Nat.zero_add]
    obtain ⟨a, q1⟩ := r
    obtain ⟨m1, m2, m3⟩ := hr
    simp only at m1 m2 m3
    have hq1 := m2.len
    (repeat (first | refine r_end ?_ | (refine r_op ?_; refine r_pure hT rfl rfl rfl rfl rfl rfl ?_) | refine gi_seq ?_ | refine gi_plain ?_))
    refine gi_le (p := ((a + 2 * s : Nat) : Int)) (q := (n : Int)) rfl (fun h4 => ?_) (fun h4 => ?_)
    · obtain ⟨g1, g2⟩ := m3.merge (e := a + 2 * s) (by omega) (by omega) (Nat.le_refl _)
      (repeat (first | (refine r_op ?_; refine r_pure hT rfl rfl rfl rfl rfl rfl ?_) | refine gi_seq ?_ | refine gi_plain ?_ | refine gi_skip ?_ | refine gi_block ?_))
      refine r_turn (d := 40) (y := I ((a + s : Nat) : Int)) rfl (by rw [wadd (c := a + s) rfl (by omega)]) ?_
      refine r_callI 0 (sym_ok (2 * s) q1 a (a + s) (a + 2 * s) (by omega) (by omega) (by omega) (by omega) (by omega) g1 g2) rfl rfl rfl rfl rfl rfl Try.func98 rfl rfl rfl rfl ?_
      rintro L' hl' ⟨q2, rfl, w1, w2⟩
      (repeat (first | refine r_end ?_ | (refine r_op ?_; refine r_pure hT rfl rfl rfl rfl rfl rfl ?_) | refine gi_seq ?_ | refine gi_plain ?_ | refine gi_inBlock ?_))
      refine next2 (a + 2 * s, q2) _ _ _ ⟨by simp only; omega, m2.trans (w1.wide (Nat.zero_le _) (by omega)), m3.step w1 w2⟩ (by simp only; omega) ⟨rfl, ?_, rfl, rfl, rfl, rfl, trivial⟩ trivial ⟨rfl, trivial⟩
      show some (I (wr .i64 (((a + 2 * s : Nat) : Int) + wr .i64 (2 * (s : Int))))) = some (I ((a + 2 * s + 2 * s : Nat) : Int))
      rw [e2, wadd (c := a + 2 * s + 2 * s) rfl (by omega)]
    · clear next2
      have on : ∀ q2, Seg a n q1 q2 → Srt a n q2 → ∀ F1 H1 S1, SubF [(6, I (wr .i64 ((s : Int) * 2))), (0, .sl 0), (1, I (n : Int)), (2, aCmp)] F1 → SubH [] H1 → SubS [eRt q2] S1 → GI _ _ F1 H1 S1 := fun q2 w1 w2 F1 H1 S1 hF hH hS => by
        refine next (2 * s, q2) F1 H1 S1 ⟨by simp only; omega, m2.trans (w1.wide (Nat.zero_le _) (Nat.le_refl _)), m3.done (by omega) w1 w2⟩ (by simp only; omega) ?_ hH hS
        rw [e3] at hF
        exact hF
      clear next
      (repeat (first | refine r_end ?_ | (refine r_op ?_; refine r_pure hT rfl rfl rfl rfl rfl rfl ?_) | refine gi_seq ?_ | refine gi_plain_ne 14 rfl ?_ | refine gi_exit rfl ?_))
      refine gi_turn (d := 9) (y := I ((a + s : Nat) : Int)) rfl (by rw [wadd (c := a + s) rfl (by omega)]) ?_
      (repeat (first | refine r_end ?_ | (refine r_op ?_; refine r_pure hT rfl rfl rfl rfl rfl rfl ?_) | refine gi_plain ?_))
      refine gi_lt (p := ((a + s : Nat) : Int)) (q := (n : Int)) rfl (fun h5 => ?_) (fun h5 => ?_)
      · obtain ⟨g1, g2⟩ := m3.merge (e := n) (by omega) (Nat.le_refl _) (by omega)
        (repeat (first | (refine r_op ?_; refine r_pure hT rfl rfl rfl rfl rfl rfl ?_) | refine gi_plain ?_))
        refine r_callI 0 (sym_ok (2 * s) q1 a (a + s) n (by omega) (by omega) (by omega) (by omega) (by omega) g1 g2) rfl rfl rfl rfl rfl rfl Try.func98 rfl rfl rfl rfl ?_
        rintro L' hl' ⟨q2, rfl, w1, w2⟩
        (repeat (first | refine r_end ?_ | (refine r_op ?_; refine r_pure hT rfl rfl rfl rfl rfl rfl ?_) | refine gi_plain ?_ | refine gi_inBlock ?_))
        exact on q2 w1 w2 _ _ _ ⟨rfl, rfl, rfl, rfl, trivial⟩ trivial ⟨rfl, trivial⟩
      · (repeat (first | refine r_end ?_ | (refine r_op ?_; refine r_pure hT rfl rfl rfl rfl rfl rfl ?_) | refine gi_plain ?_ | refine gi_skip ?_ | refine gi_inBlock ?_))
        exact on q1 Seg.rfl ((m3.hi a m3.dvs (Nat.le_refl _)).sub (Nat.le_refl _) (by omega)) _ _ _ ⟨rfl, rfl, rfl, rfl, trivial⟩ trivial ⟨rfl, trivial⟩
  · (repeat (refine gi_exit rfl ?_))
    refine gi_finX hT Try.func86 rfl [] [0] rfl rfl rfl rfl rfl rfl rfl rfl ?_
    exact ⟨rfl, rfl, _, rfl, by rw [List.length_map, List.length_map, hql], pl_Rt q, q, rfl, k2, (k3 0 (Nat.dvd_zero _)).sub (Nat.le_refl _) (by omega)⟩
theorem sortS_ok (l : List Rt) (hl : l.length < 100000000) : FnI Try.prog 63 [.sl 0, aCmp] tRt 5 (l.map Rt.row) (RSrt 0 l.length l) := by
  refine fnI_intro (T := TT) (n := 9) Try.func63 rfl rfl rfl (fun w X Z Y B V => ?_)
  (repeat (first | (refine r_op ?_; refine r_pure hT rfl rfl rfl rfl rfl rfl ?_) | refine gi_plain ?_))
  refine r_turn (d := 6) (y := I (l.length : Int)) rfl (by rw [List.length_map]) ?_
  refine r_callI 0 (stable_ok l hl) rfl rfl rfl rfl rfl rfl Try.func86 rfl rfl rfl rfl ?_
  rintro L' hl' ⟨q, rfl, g1, g2⟩
  (repeat (refine r_end ?_))
  refine gi_finX hT Try.func63 rfl [] [0] rfl rfl rfl rfl rfl rfl rfl rfl ?_
  exact ⟨rfl, rfl, _, rfl, hl', pl_Rt q, q, rfl, g1, g2⟩
end Go.Proofs.Ytmocggibcniggaa.Kt
namespace Go.Proofs.Ytmocggibcniggaa.Kt
open Go Kw Go.Proofs
attribute [local irreducible] Kw.GI Kw.GR Kw.FnR Kw.FnX Kw.FnI
set_option maxHeartbeats 16000000
set_option maxRecDepth 100000
/-- The first i without those that are as the one ahead of them. -/
def cpN (l : List Rt) : Nat → List Rt
  | 0 => []
  | i + 1 => match l[i]?, l[i - 1]? with
    | some y, some x => if i = 0 ∨ eqRt y x = false then cpN l i ++ [y] else cpN l i
    | _, _ => cpN l i
theorem cpN_eq {l : List Rt} {i : Nat} {x y : Rt} (hx : l[i]? = some x) (hy : l[i + 1]? = some y) : cpN l (i + 2) = if eqRt y x = false then cpN l (i + 1) ++ [y] else cpN l (i + 1) := by
  rw [cpN, hy, show i + 1 - 1 = i by omega, hx]
  simp
theorem cpN_one {l : List Rt} {x : Rt} (hx : l[0]? = some x) : cpN l 1 = [x] := by
  rw [cpN, hx]
  simp [cpN, hx]
theorem cpN_take {l : List Rt} : ∀ {k : Nat}, k ≤ l.length → (∀ (u : Nat) x y, u + 1 < k → l[u]? = some x → l[u + 1]? = some y → eqRt y x = false) → cpN l k = l.take k
  | 0, _, _ => by rw [cpN, List.take_zero]
  | 1, hk, _ => by
    obtain ⟨x, hx⟩ : ∃ x, l[0]? = some x := ⟨_, List.getElem?_eq_getElem (by omega)⟩
    rw [cpN_one hx, take_snoc hx, List.take_zero]
    rfl
  | k + 2, hk, h => by
    obtain ⟨x, hx⟩ : ∃ x, l[k]? = some x := ⟨_, List.getElem?_eq_getElem (by omega)⟩
    obtain ⟨y, hy⟩ : ∃ y, l[k + 1]? = some y := ⟨_, List.getElem?_eq_getElem (by omega)⟩
    rw [cpN_eq hx hy, if_pos (h k x y (by omega) hx hy), take_snoc hy, cpN_take (k := k + 1) (by omega) (fun u x y hu => h u x y (by omega))]
abbrev cpL (l : List Rt) : List Rt := cpN l l.length
abbrev aEq : AV := .fn 68 []
theorem set_take {l : List Rt} {k : Nat} {y : Rt} (hk : k < l.length) : (l.set k y).take (k + 1) = l.take k ++ [y] := by
  have : (l.set k y)[k]? = some y := List.getElem?_set_self hk
  rw [take_snoc this, List.take_set_of_le (Nat.le_refl _)]
theorem cp_ok (l : List Rt) (hl : l.length < 100000000) : FnX Try.prog 67 [.sl 0, aEq] [] [eRt l] (RV1 (eRt (cpL l))) := by
  obtain ⟨n, hn⟩ : ∃ n, n = l.length := ⟨_, rfl⟩
  refine fnX_intro (T := TT) (n := 66) Try.func67 rfl rfl rfl (fun w X Z Y B => ?_)
  (repeat (first | refine r_end ?_ | (refine r_op ?_; refine r_pure hT rfl rfl rfl rfl rfl rfl ?_) | refine gi_seq ?_ | refine gi_plain ?_))
  refine gi_lt (p := ((l.map Rt.row).length : Int)) (q := 2) rfl (fun h1 => ?_) (fun h1 => ?_)
  · rw [List.length_map] at h1
    (repeat (first | refine r_end ?_ | (refine r_op ?_; refine r_pure hT rfl rfl rfl rfl rfl rfl ?_) | refine gi_seq ?_ | refine gi_plain ?_))
    refine gi_retX hT Try.func67 rfl [] [0] rfl rfl rfl rfl rfl rfl rfl rfl ?_
    refine ⟨rfl, rfl, ?_⟩
    rw [cpL, cpN_take (Nat.le_refl _) (fun u x y hu => by omega), List.take_length]
  rw [List.length_map] at h1
  (repeat (first | refine r_end ?_ | (refine r_op ?_; refine r_pure hT rfl rfl rfl rfl rfl rfl ?_) | refine gi_seq ?_ | refine gi_plain ?_ | refine gi_skip ?_ | refine gi_block ?_))
  refine gi_loop (σ := Nat) (fun k => [(5, I (k : Int)), (0, .sl 0), (1, aEq)]) (fun _ => []) (fun _ => [eRt l]) (fun k => 1 ≤ k ∧ k ≤ n ∧ ∀ (u : Nat) x y, u + 1 < k → l[u]? = some x → l[u + 1]? = some y → eqRt y x = false) (fun k => n - k) 1 ⟨Nat.le_refl _, by omega, fun u x y hu => by omega⟩ ⟨rfl, rfl, rfl, trivial⟩ trivial ⟨rfl, trivial⟩ (fun _ => rfl) (fun k hk next => ?_)
  obtain ⟨k1, k2, k3⟩ := hk
  (repeat (first | refine r_end ?_ | (refine r_op ?_; refine r_pure hT rfl rfl rfl rfl rfl rfl ?_) | refine gi_seq ?_ | refine gi_plain ?_))
  refine gi_lt (p := (k : Int)) (q := ((l.map Rt.row).length : Int)) rfl (fun h3 => ?_) (fun h3 => ?_)
  · rw [List.length_map] at h3
    obtain ⟨k0, rfl⟩ : ∃ k0, k = k0 + 1 := ⟨k - 1, by omega⟩
    obtain ⟨x, hx⟩ : ∃ x, l[k0]? = some x := ⟨_, List.getElem?_eq_getElem (by omega)⟩
    obtain ⟨y, hy⟩ : ∃ y, l[k0 + 1]? = some y := ⟨_, List.getElem?_eq_getElem (by omega)⟩
    (repeat (first | refine gi_seq ?_ | refine gi_skip ?_ | refine gi_block ?_))
    refine gi_drawM [] [(0, .p), (1, .p), (2, .p), (3, .p), (5, .p), (6, .p), (7, .p), (8, .p), (4, .t), (9, .t), (10, .o)] [0, 0, 0, 6, 8, 0, 0, 64, 160, 256, 529] [0, 0, 0, 6, 8, 0, 0, 64, 160, 256, 529] Kt.hm rfl (by kernel_rfl) (fun w1 K => ?_)
    (repeat ((refine r_op ?_; refine r_pure hT rfl rfl rfl rfl rfl rfl ?_)))
    refine r_idxS hT rfl rfl rfl rfl rfl rfl rfl rfl rfl rfl rfl rfl rfl (nn (k0 + 1)) (row_lt (l := l) (by omega)) ?_
    (repeat ((refine r_op ?_; refine r_pure hT rfl rfl rfl rfl rfl rfl ?_)))
    refine r_turn (d := 25) (y := I (k0 : Int)) rfl (by rw [wsub1 (by omega)]) ?_
    refine r_idxS hT rfl rfl rfl rfl rfl rfl rfl rfl rfl rfl rfl rfl rfl (nn k0) (row_lt (l := l) (by omega)) ?_
    skip
    refine r_loadS (row := y.row) hT rfl rfl rfl rfl rfl rfl rfl rfl (row_at hy) rfl rfl rfl ?_
    skip
    refine r_loadS (row := x.row) hT rfl rfl rfl rfl rfl rfl rfl rfl (row_at hx) rfl rfl rfl ?_
    skip
    refine r_call (eqRt_ok y x) rfl rfl rfl rfl rfl rfl rfl rfl Try.func68 rfl rfl rfl pB ?_
    rintro r S1 ⟨rfl, rfl⟩
    (repeat (refine r_end ?_))
    refine gi_cond rfl (fun c1 => ?_) (fun c1 => ?_)
    · clear next
      have hc0 : cpN l (k0 + 2) = l.take (k0 + 1) := by
        rw [cpN_eq hx hy, if_neg (by rw [c1]; decide)]
        exact cpN_take (by omega) k3
      (repeat (first | (refine r_op ?_; refine r_pure hT rfl rfl rfl rfl rfl rfl ?_) | refine gi_seq ?_ | refine gi_plain ?_))
      refine r_sliceS (l := ((k0 + 1 : Nat) : Int)) (h := ((l.map Rt.row).length : Int)) hT rfl rfl rfl rfl rfl rfl rfl rfl rfl rfl rfl rfl rfl rfl (by rw [List.length_map]; omega) ?_
      (repeat (first | refine r_end ?_ | (refine r_op ?_; refine r_pure hT rfl rfl rfl rfl rfl rfl ?_) | refine gi_seq ?_ | refine gi_plain ?_ | refine gi_block ?_))
      refine gi_loop (σ := Nat × Nat × List Rt) (fun s => [(7, I ((s.1 : Nat) : Int)), (6, .ss 0 5 (k0 + 1) (n - (k0 + 1))), (5, I ((s.2.1 : Nat) : Int)), (0, .sl 0), (1, aEq)]) (fun _ => []) (fun s => [eRt s.2.2]) (fun s => 1 ≤ s.1 ∧ k0 + 1 + s.1 ≤ n ∧ s.2.1 < k0 + 1 + s.1 ∧ s.2.2.length = n ∧ s.2.2.take s.2.1 = cpN l (k0 + 1 + s.1) ∧ ∀ u, k0 + s.1 ≤ u → s.2.2[u]? = l[u]?) (fun s => n - s.1) (1, k0 + 1, l) ⟨Nat.le_refl _, by simp only; omega, by simp only; omega, hn.symm, hc0.symm, fun _ _ => rfl⟩ ⟨rfl, ?_, rfl, rfl, rfl, trivial⟩ trivial ⟨rfl, trivial⟩ (fun _ => rfl) (fun s hs next => ?_)
      · show some (AV.ss 0 5 ((k0 + 1 : Nat) : Int).toNat (((l.map Rt.row).length : Int).toNat - ((k0 + 1 : Nat) : Int).toNat)) = _
        rw [Int.toNat_natCast, Int.toNat_natCast, List.length_map, hn]
      obtain ⟨j, k, q⟩ := s
      obtain ⟨m1, m2, m3, m4, m5, m6⟩ := hs
      simp only at m1 m2 m3 m4 m5 m6
      (repeat (first | refine r_end ?_ | (refine r_op ?_; refine r_pure hT rfl rfl rfl rfl rfl rfl ?_) | refine gi_seq ?_ | refine gi_plain ?_))
      refine gi_lt (p := (j : Int)) (q := ((n - (k0 + 1) : Nat) : Int)) rfl (fun h4 => ?_) (fun h4 => ?_)
      · obtain ⟨j0, rfl⟩ : ∃ j0, j = j0 + 1 := ⟨j - 1, by omega⟩
        obtain ⟨x, hx⟩ : ∃ x, l[k0 + 1 + j0]? = some x := ⟨_, List.getElem?_eq_getElem (by omega)⟩
        obtain ⟨y, hy⟩ : ∃ y, l[k0 + 1 + (j0 + 1)]? = some y := ⟨_, List.getElem?_eq_getElem (by omega)⟩
        have hqx : q[k0 + 1 + j0]? = some x := by rw [m6 _ (by omega)]; exact hx
        have hqy : q[k0 + 1 + (j0 + 1)]? = some y := by rw [m6 _ (by omega)]; exact hy
        have hcp : cpN l (k0 + 1 + (j0 + 1 + 1)) = if eqRt y x = false then cpN l (k0 + 1 + (j0 + 1)) ++ [y] else cpN l (k0 + 1 + (j0 + 1)) := cpN_eq (i := k0 + 1 + j0) hx hy
        have ex : (q.map Rt.row)[k0 + 1 + ((j0 : Nat) : Int).toNat]? = some x.row := by rw [Int.toNat_natCast]; exact row_get hqx
        have ey : (q.map Rt.row)[k0 + 1 + ((j0 + 1 : Nat) : Int).toNat]? = some y.row := by rw [Int.toNat_natCast]; exact row_get hqy
        (repeat (first | refine gi_seq ?_ | refine gi_skip ?_ | refine gi_block ?_))
        refine gi_drawM [] [(0, .p), (1, .p), (2, .p), (3, .p), (5, .p), (6, .p), (7, .p), (8, .p), (4, .t), (9, .t), (10, .o), (11, .p)] [0, 0, 0, 6, 8, 0, 0, 64, 160, 256, 529, 1024] [0, 0, 0, 6, 8, 0, 0, 64, 160, 256, 529, 1024] Kt.hm rfl (by kernel_rfl) (fun w1 K => ?_)
        (repeat ((refine r_op ?_; refine r_pure hT rfl rfl rfl rfl rfl rfl ?_)))
        refine r_idxSS hT rfl rfl rfl rfl rfl rfl rfl rfl rfl rfl rfl rfl rfl rfl (nn (j0 + 1)) (by rw [Int.toNat_natCast]; omega) ?_
        (repeat ((refine r_op ?_; refine r_pure hT rfl rfl rfl rfl rfl rfl ?_)))
        refine r_turn (d := 45) (y := I (j0 : Int)) rfl (by rw [wsub1 (by omega)]) ?_
        refine r_idxSS hT rfl rfl rfl rfl rfl rfl rfl rfl rfl rfl rfl rfl rfl rfl (nn j0) (by rw [Int.toNat_natCast]; omega) ?_
        skip
        refine r_loadS (row := y.row) hT rfl rfl rfl rfl rfl rfl rfl rfl ey rfl rfl rfl ?_
        skip
        refine r_loadS (row := x.row) hT rfl rfl rfl rfl rfl rfl rfl rfl ex rfl rfl rfl ?_
        skip
        refine r_call (eqRt_ok y x) rfl rfl rfl rfl rfl rfl rfl rfl Try.func68 rfl rfl rfl pB ?_
        rintro r S1 ⟨rfl, rfl⟩
        (repeat (first | refine r_end ?_ | (refine r_op ?_; refine r_pure hT rfl rfl rfl rfl rfl rfl ?_)))
        refine gi_cond rfl (fun c2 => ?_) (fun c2 => ?_)
        · rw [notB_eq, Bool.not_eq_true'] at c2
          rw [if_pos c2] at hcp
          have hkl : k < q.length := by omega
          obtain ⟨z, hz⟩ : ∃ z, q[k]? = some z := ⟨_, List.getElem?_eq_getElem hkl⟩
          (repeat (first | (refine r_op ?_; refine r_pure hT rfl rfl rfl rfl rfl rfl ?_) | refine gi_seq ?_ | refine gi_plain ?_))
          refine r_idxSS hT rfl rfl rfl rfl rfl rfl rfl rfl rfl rfl rfl rfl rfl rfl (nn (j0 + 1)) (by rw [Int.toNat_natCast]; omega) ?_
          skip
          refine r_loadS (row := y.row) hT rfl rfl rfl rfl rfl rfl rfl rfl ey rfl rfl rfl ?_
          skip
          refine r_idxS hT rfl rfl rfl rfl rfl rfl rfl rfl rfl rfl rfl rfl rfl (nn k) (row_lt (l := q) hkl) ?_
          skip
          refine r_storeS (row := z.row) hT rfl rfl rfl rfl rfl rfl rfl rfl rfl rfl rfl rfl rfl (row_at hz) ?_
          (repeat (first | refine r_end ?_ | (refine r_op ?_; refine r_pure hT rfl rfl rfl rfl rfl rfl ?_) | refine gi_plain ?_ | refine gi_inBlock ?_))
          refine next (j0 + 2, k + 1, q.set k y) _ _ _ ⟨by simp only; omega, by simp only; omega, by simp only; omega, by simp only [List.length_set]; exact m4, ?_, fun u hu => ?_⟩ (by simp only; omega) ⟨?_, rfl, ?_, rfl, rfl, trivial⟩ trivial ⟨?_, trivial⟩
          · simp only
            rw [set_take hkl, m5, show k0 + 1 + (j0 + 2) = k0 + 1 + (j0 + 1 + 1) by omega, hcp]
          · simp only at hu ⊢
            rw [List.getElem?_set_ne (by omega)]
            exact m6 u (by omega)
          · show some (I (wr .i64 (((j0 + 1 : Nat) : Int) + 1))) = _
            rw [wadd1 (by omega)]
          · show some (I (wr .i64 ((k : Int) + 1))) = _
            rw [wadd1 (by omega)]
          · refine congrArg (fun L => some (⟨tRt, 5, L, false⟩ : SE)) ?_
            symm
            show List.set (q.map Rt.row) ((k : Nat) : Int).toNat y.row = (q.set k y).map Rt.row
            rw [Int.toNat_natCast, set_row]
        · rw [notB_eq, Bool.not_eq_false'] at c2
          rw [if_neg (by rw [c2]; decide)] at hcp
          (repeat (first | refine r_end ?_ | (refine r_op ?_; refine r_pure hT rfl rfl rfl rfl rfl rfl ?_) | refine gi_plain ?_ | refine gi_skip ?_ | refine gi_inBlock ?_))
          refine next (j0 + 2, k, q) _ _ _ ⟨by simp only; omega, by simp only; omega, by simp only; omega, m4, ?_, fun u hu => m6 u (by simp only at hu; omega)⟩ (by simp only; omega) ⟨?_, rfl, rfl, rfl, rfl, trivial⟩ trivial ⟨rfl, trivial⟩
          · simp only
            rw [m5, show k0 + 1 + (j0 + 2) = k0 + 1 + (j0 + 1 + 1) by omega, hcp]
          · show some (I (wr .i64 (((j0 + 1 : Nat) : Int) + 1))) = _
            rw [wadd1 (by omega)]
      · have hjn : k0 + 1 + j = n := by omega
        rw [hjn] at m5
        clear next
        (repeat (first | (refine r_op ?_; refine r_pure hT rfl rfl rfl rfl rfl rfl ?_) | refine gi_seq ?_ | refine gi_plain ?_ | refine gi_exit rfl ?_))
        refine r_sliceS (l := ((k : Nat) : Int)) (h := ((q.map Rt.row).length : Int)) hT rfl rfl rfl rfl rfl rfl rfl rfl rfl rfl rfl rfl rfl rfl (by rw [List.length_map]; omega) ?_
        skip
        obtain ⟨Lz, hLz⟩ : ∃ Lz, Lz = wrL (q.map Rt.row) ((k : Nat) : Int).toNat (List.replicate (((q.map Rt.row).length : Int).toNat - ((k : Nat) : Int).toNat) [.v (.int .i64 0), .v (.int .i64 0), .v (.int .i64 0), .v (.int .i64 0), .v (.int .i64 0)]) := ⟨_, rfl⟩
        have hLl : Lz.length = n := by
          rw [hLz, Int.toNat_natCast, Int.toNat_natCast, List.length_map]
          unfold wrL
          simp only [List.length_append, List.length_take, List.length_drop, List.length_replicate, List.length_map]
          omega
        have hLt : Lz.take k = (cpN l n).map Rt.row := by
          rw [hLz, Int.toNat_natCast]
          unfold wrL
          rw [List.append_assoc, List.take_append_of_le_length (by rw [List.length_take, List.length_map]; omega), List.take_take, Nat.min_self, ← List.map_take, m5]
        refine r_clearSS allP (L' := Lz) hT rfl rfl rfl rfl rfl rfl rfl rfl rfl rfl rfl rfl rfl rfl rfl rfl ?_ hLz.symm (.inr ⟨rfl, by rw [hLl, List.length_map, m4]⟩) ?_
        · show ((k : Nat) : Int).toNat + (((q.map Rt.row).length : Int).toNat - ((k : Nat) : Int).toNat) ≤ (q.map Rt.row).length
          rw [Int.toNat_natCast, Int.toNat_natCast, List.length_map]; omega
        (repeat (first | refine r_end ?_ | (refine r_op ?_; refine r_pure hT rfl rfl rfl rfl rfl rfl ?_) | refine gi_seq ?_ | refine gi_plain ?_))
        refine r_sliceS (l := 0) (h := ((k : Nat) : Int)) hT rfl rfl rfl rfl rfl rfl rfl rfl rfl rfl rfl rfl rfl rfl (by show (0 : Int) ≤ 0 ∧ (0 : Int) ≤ ((k : Nat) : Int) ∧ ((k : Nat) : Int) ≤ (Lz.length : Int); rw [hLl]; omega) ?_
        (repeat (first | refine r_end ?_ | (refine r_op ?_; refine r_pure hT rfl rfl rfl rfl rfl rfl ?_)))
        refine gi_retract 4 rfl rfl rfl rfl ?_ ?_
        · show ((k : Nat) : Int).toNat - (0 : Int).toNat ≤ Lz.length
          rw [hLl, Int.toNat_natCast]; omega
        refine gi_retX hT Try.func67 rfl [] [0] rfl rfl rfl rfl rfl rfl rfl rfl ?_
        refine ⟨rfl, rfl, ?_⟩
        refine congrArg (fun L => [some (⟨tRt, 5, L, false⟩ : SE)]) ?_
        show Lz.take (((k : Nat) : Int).toNat - (0 : Int).toNat) = (cpN l l.length).map Rt.row
        rw [Int.toNat_natCast, show k - (0 : Int).toNat = k from rfl, hLt, hn]
    · (repeat (first | refine r_end ?_ | (refine r_op ?_; refine r_pure hT rfl rfl rfl rfl rfl rfl ?_) | refine gi_plain ?_ | refine gi_skip ?_ | refine gi_inBlock ?_))
      refine next (k0 + 2) _ _ _ ⟨by omega, by omega, fun u p r hu hp hr => ?_⟩ (by omega) ⟨?_, rfl, rfl, trivial⟩ trivial ⟨rfl, trivial⟩
      · by_cases e : u = k0
        · subst e
          rw [hx] at hp; rw [hy] at hr
          cases hp; cases hr
          exact c1
        · exact k3 u p r (by omega) hp hr
      · show some (I (wr .i64 (((k0 + 1 : Nat) : Int) + 1))) = _
        rw [wadd1 (by omega)]
  · rw [List.length_map] at h3
    have hkn : k = l.length := by omega
    (repeat (first | refine r_end ?_ | (refine r_op ?_; refine r_pure hT rfl rfl rfl rfl rfl rfl ?_) | refine gi_seq ?_ | refine gi_plain ?_ | refine gi_exit rfl ?_))
    refine gi_retX hT Try.func67 rfl [] [0] rfl rfl rfl rfl rfl rfl rfl rfl ?_
    refine ⟨rfl, rfl, ?_⟩
    rw [cpL, cpN_take (Nat.le_refl _) (by rw [← hkn]; exact k3), List.take_length]
end Go.Proofs.Ytmocggibcniggaa.Kt
namespace Go.Proofs.Ytmocggibcniggaa.Kt
open Go Kw Go.Proofs
/-! ### the tree, as it grows -/
/-- Each Node but the first is the best one behind those ahead of it. -/
def Grown (bt : List Nd → Nd → Nd → Bool) (es : List Eg) (t : List Nd) : Prop := ∀ j, 1 ≤ j → j < t.length → bestL bt (t.take j) es = t[j]?
theorem grown_one (bt : List Nd → Nd → Nd → Bool) (es : List Eg) (n : Nd) : Grown bt es [n] := fun j h1 h2 => by
  have : j < 1 := h2
  omega
theorem grown_add {bt : List Nd → Nd → Nd → Bool} {es : List Eg} {t : List Nd} {n : Nd} (h : Grown bt es t) (hn : bestL bt t es = some n) : Grown bt es (t ++ [n]) := fun j h1 h2 => by
  rw [List.length_append, List.length_singleton] at h2
  rcases Nat.lt_or_ge j t.length with hj | hj
  · rw [List.take_append_of_le_length (by omega), List.getElem?_append_left hj]
    exact h j h1 hj
  · have : j = t.length := by omega
    subst this
    rw [List.take_left', hn] <;> simp
theorem treeN_grown {bt : List Nd → Nd → Nd → Bool} {es : List Eg} : ∀ (k : Nat) (t : List Nd), Grown bt es t → Grown bt es (treeN bt es k t) ∧ (∃ r, treeN bt es k t = t ++ r) ∧ (bestL bt (treeN bt es k t) es = none ∨ (treeN bt es k t).length = t.length + k)
  | 0, t, h => ⟨h, ⟨[], by simp [treeN]⟩, .inr rfl⟩
  | k + 1, t, h => by
    cases hb : bestL bt t es with
    | none => rw [treeN_none hb]; exact ⟨h, ⟨[], by simp⟩, .inl hb⟩
    | some n =>
      rw [treeN_some hb]
      obtain ⟨h1, ⟨r, h2⟩, h3⟩ := treeN_grown k (t ++ [n]) (grown_add h hb)
      refine ⟨h1, ⟨n :: r, by rw [h2]; simp⟩, ?_⟩
      rcases h3 with h3 | h3
      · exact .inl h3
      · right; rw [h3]; simp; omega
/-- No candidate costs less than the best. -/
def Cheap (bt : List Nd → Nd → Nd → Bool) : Prop := ∀ t a b, (bt t a b = true → a.c ≤ b.c) ∧ (bt t a b = false → b.c ≤ a.c)
theorem soon_cheap : Cheap soon := fun t a b => by
  have key : ∀ va vb, (soonF va vb a b = true → a.c ≤ b.c) ∧ (soonF va vb a b = false → b.c ≤ a.c) := fun va vb => by
    unfold soonF
    rw [notB_eq, eqB_eq, ltB_eq]
    by_cases h : a.c = b.c
    · rw [h]
      exact ⟨fun _ => Int.le_refl _, fun _ => Int.le_refl _⟩
    · have : (!(a.c == b.c)) = true := by simpa using h
      rw [this]
      refine ⟨fun h => ?_, fun h => ?_⟩
      · have := of_decide_eq_true h; omega
      · have := of_decide_eq_false h; omega
  exact key _ _
theorem best_least {bt : List Nd → Nd → Nd → Bool} (hc : Cheap bt) {t : List Nd} : ∀ {es : List Eg} {m : Option Nd} {b : Nd}, es.foldl (stepT bt t) m = some b → (∀ x, m = some x → b.c ≤ x.c) ∧ ∀ e ∈ es, ∀ n, candL t e = some n → b.c ≤ n.c
  | [], m, b, h => ⟨fun x hx => by
      have h : m = some b := h
      rw [h] at hx; cases hx; exact Int.le_refl _, fun e he => by cases he⟩
  | e :: es, m, b, h => by
    obtain ⟨h1, h2⟩ := best_least hc (es := es) h
    unfold stepT at h1
    have h3 : (∀ x, m = some x → b.c ≤ x.c) ∧ ∀ n, candL t e = some n → b.c ≤ n.c := by
      cases hn : candL t e with
      | none =>
        rw [hn] at h1
        exact ⟨h1, fun n h => by cases h⟩
      | some n =>
        rw [hn] at h1
        cases m with
        | none =>
          refine ⟨fun x hx => (nomatch hx), fun n' hn' => ?_⟩
          cases hn'
          exact h1 n rfl
        | some x =>
          simp only at h1
          have hcc := hc t n x
          cases hb : bt t n x with
          | true =>
            rw [hb] at h1
            have := h1 n rfl
            refine ⟨fun y hy => ?_, fun n' hn' => ?_⟩
            · cases hy; exact Int.le_trans this (hcc.1 hb)
            · cases hn'; exact this
          | false =>
            rw [hb] at h1
            have := h1 x rfl
            refine ⟨fun y hy => ?_, fun n' hn' => ?_⟩
            · cases hy; exact this
            · cases hn'; exact Int.le_trans this (hcc.2 hb)
    refine ⟨h3.1, fun e' he' n hn => ?_⟩
    rcases List.mem_cons.1 he' with rfl | he'
    · exact h3.2 n hn
    · exact h2 e' he' n hn
theorem best_none {bt : List Nd → Nd → Nd → Bool} {t : List Nd} : ∀ {es : List Eg} {m : Option Nd}, es.foldl (stepT bt t) m = none → m = none ∧ ∀ e ∈ es, candL t e = none
  | [], m, h => ⟨h, fun e he => by cases he⟩
  | e :: es, m, h => by
    obtain ⟨h1, h2⟩ := best_none (es := es) h
    have h3 : m = none ∧ candL t e = none := by
      unfold stepT at h1
      cases hn : candL t e with
      | none => rw [hn] at h1; exact ⟨h1, rfl⟩
      | some n =>
        rw [hn] at h1
        cases m with
        | none => cases h1
        | some x =>
          simp only at h1
          split at h1 <;> cases h1
    refine ⟨h3.1, fun e' he' => ?_⟩
    rcases List.mem_cons.1 he' with rfl | he'
    · exact h3.2
    · exact h2 e' he'
theorem cand_some {t : List Nd} {e : Eg} {n : Nd} (h : candL t e = some n) : ∃ p x, placeL t e.f = some p ∧ t[p]? = some x ∧ x.v = e.f ∧ placeL t e.t = none ∧ n = ⟨e.t, p, wr .i64 (x.c + e.c), e.d⟩ := by
  unfold candL at h
  split at h
  · rename_i p hp hq
    cases h
    obtain ⟨x, h1, h2⟩ := placeL_some hp
    exact ⟨p, x, hp, h1, h2, hq, by rw [List.getD_eq_getElem?_getD, h1]; rfl⟩
  · cases h
theorem cand_mk {t : List Nd} {e : Eg} {p : Nat} {x : Nd} (hp : placeL t e.f = some p) (hx : t[p]? = some x) (hq : placeL t e.t = none) : candL t e = some ⟨e.t, p, wr .i64 (x.c + e.c), e.d⟩ := by
  unfold candL
  rw [hp, hq]
  simp only
  rw [List.getD_eq_getElem?_getD, hx]
  rfl
section
variable {bt : List Nd → Nd → Nd → Bool} {es : List Eg} {t : List Nd}
/-- A Node behind the first one: the edge by which it came. -/
theorem Grown.edge (h : Grown bt es t) {j : Nat} (hj : 1 ≤ j) {n : Nd} (hn : t[j]? = some n) : ∃ e ∈ es, ∃ (p : Nat) (x : Nd), p < j ∧ t[p]? = some x ∧ x.v = e.f ∧ e.t = n.v ∧ n.p = p ∧ n.c = wr .i64 (x.c + e.c) ∧ n.d = e.d ∧ ∀ m ∈ t.take j, m.v ≠ n.v := by
  have hl := (List.getElem?_eq_some_iff.1 hn).1
  have hb := h j hj hl
  rw [hn] at hb
  rcases best_fold hb with hb | ⟨e, he, hc⟩
  · cases hb
  · obtain ⟨p, x, h1, h2, h3, h4, h5⟩ := cand_some hc
    have hpj : p < j := by have := placeL_lt h1; rw [List.length_take] at this; omega
    rw [List.getElem?_take, if_pos hpj] at h2
    subst h5
    exact ⟨e, he, p, x, hpj, h2, h3, rfl, rfl, rfl, rfl, placeL_none h4⟩
/-- No vertex twice. -/
theorem Grown.inj (h : Grown bt es t) {i j : Nat} {a b : Nd} (ha : t[i]? = some a) (hb : t[j]? = some b) (hv : a.v = b.v) : i = j := by
  have key : ∀ {i j : Nat} {a b : Nd}, t[i]? = some a → t[j]? = some b → i < j → a.v ≠ b.v := fun {i j a b} ha hb hij => by
    obtain ⟨_, _, _, _, _, _, _, _, _, _, _, hne⟩ := h.edge (by omega) hb
    refine hne a (List.mem_iff_getElem?.2 ⟨i, ?_⟩)
    rw [List.getElem?_take, if_pos hij]; exact ha
  rcases Nat.lt_trichotomy i j with hij | hij | hij
  · exact absurd hv (key ha hb hij)
  · exact hij
  · exact absurd hv.symm (key hb ha hij)
theorem Grown.place (h : Grown bt es t) {j : Nat} {n : Nd} (hn : t[j]? = some n) : placeL t n.v = some j :=
  placeL_at (fun i hi m hm hv => by have := h.inj hm hn hv; omega) hn rfl
/-- The costs: none below nought, not greater than so many edges. -/
theorem Grown.cost (h : Grown bt es t) {C : Int} (h0 : ∀ n, t[0]? = some n → n.c = 0) (hl : t.length ≤ 100000) (hC : C ≤ 1000000) (hes : ∀ e ∈ es, 0 ≤ e.c ∧ e.c ≤ C) : ∀ (j : Nat) (n : Nd), t[j]? = some n → 0 ≤ n.c ∧ n.c ≤ j * C := by
  intro j
  induction j using Nat.strongRecOn with
  | _ j ih =>
    intro n hn
    rcases Nat.eq_zero_or_pos j with rfl | hj
    · rw [h0 n hn]; simp
    · obtain ⟨e, he, p, x, hp, hx, _, _, _, hc, _⟩ := h.edge hj hn
      obtain ⟨h1, h2⟩ := ih p hp x hx
      obtain ⟨h3, h4⟩ := hes e he
      have hjl := (List.getElem?_eq_some_iff.1 hn).1
      have hpC : (p : Int) * C ≤ (j - 1 : Nat) * C := Int.mul_le_mul_of_nonneg_right (by omega) (by omega)
      have hjC : ((j - 1 : Nat) : Int) * C + C = (j : Int) * C := by
        rw [show ((j - 1 : Nat) : Int) = (j : Int) - 1 from by omega, Int.sub_mul, Int.one_mul]; omega
      have hb : (j : Int) * C ≤ 100000 * 1000000 := Int.le_trans (Int.mul_le_mul_of_nonneg_left hC (by omega)) (Int.mul_le_mul_of_nonneg_right (by omega) (by omega))
      rw [hc, wr_i64 (by omega) (by omega)]
      omega
/-- Who could come next costs no less than who comes. -/
theorem Grown.least (h : Grown bt es t) (hc : Cheap bt) {C : Int} (h0 : ∀ n, t[0]? = some n → n.c = 0) (hl : t.length ≤ 100000) (hC : C ≤ 1000000) (hes : ∀ e ∈ es, 0 ≤ e.c ∧ e.c ≤ C) {e : Eg} (he : e ∈ es) {a j : Nat} {x n : Nd} (haj : a < j) (hx : t[a]? = some x) (hxv : x.v = e.f) (hn : t[j]? = some n) (hnew : ∀ m ∈ t.take j, m.v ≠ e.t) : n.c ≤ x.c + e.c := by
  have hjl := (List.getElem?_eq_some_iff.1 hn).1
  have hb := h j (by omega) hjl
  rw [hn] at hb
  have hxt : (t.take j)[a]? = some x := by rw [List.getElem?_take, if_pos haj]; exact hx
  have hpl : placeL (t.take j) e.f = some a := placeL_at (fun i hi m hm hv => by
    rw [List.getElem?_take] at hm
    split at hm
    · have := h.inj hm hx (hv.trans hxv.symm); omega
    · cases hm) hxt hxv
  have hcand := cand_mk hpl hxt (placeL_no hnew)
  have := (best_least hc hb).2 e he _ hcand
  obtain ⟨c1, c2⟩ := h.cost h0 hl hC hes a x hx
  obtain ⟨c3, c4⟩ := hes e he
  have haC : (a : Int) * C ≤ 100000 * 1000000 := Int.le_trans (Int.mul_le_mul_of_nonneg_left hC (by omega)) (Int.mul_le_mul_of_nonneg_right (by omega) (by omega))
  have this : n.c ≤ wr .i64 (x.c + e.c) := this
  rwa [wr_i64 (by omega) (by omega)] at this
/-- The costs do not fall. -/
theorem Grown.rise1 (h : Grown bt es t) (hc : Cheap bt) {C : Int} (h0 : ∀ n, t[0]? = some n → n.c = 0) (hl : t.length ≤ 100000) (hC : C ≤ 1000000) (hes : ∀ e ∈ es, 0 ≤ e.c ∧ e.c ≤ C) {j : Nat} {x n : Nd} (hx : t[j]? = some x) (hn : t[j + 1]? = some n) : x.c ≤ n.c := by
  obtain ⟨e, he, p, y, hp, hy, hyv, het, _, hcn, _, hne⟩ := h.edge (by omega) hn
  obtain ⟨c1, c2⟩ := h.cost h0 hl hC hes p y hy
  obtain ⟨c3, c4⟩ := hes e he
  have hpl := (List.getElem?_eq_some_iff.1 hy).1
  have haC : (p : Int) * C ≤ 100000 * 1000000 := Int.le_trans (Int.mul_le_mul_of_nonneg_left hC (by omega)) (Int.mul_le_mul_of_nonneg_right (by omega) (by omega))
  rw [hcn, wr_i64 (by omega) (by omega)]
  rcases Nat.lt_or_ge p j with hpj | hpj
  · exact h.least hc h0 hl hC hes he hpj hy hyv hx (fun m hm => by
      rw [het]
      refine hne m ?_
      obtain ⟨i, hi⟩ := List.mem_iff_getElem?.1 hm
      rw [List.getElem?_take] at hi
      split at hi
      · exact List.mem_iff_getElem?.2 ⟨i, by rw [List.getElem?_take, if_pos (by omega)]; exact hi⟩
      · cases hi)
  · have : p = j := by omega
    subst this
    rw [hx] at hy; cases hy; omega
theorem Grown.rise (h : Grown bt es t) (hc : Cheap bt) {C : Int} (h0 : ∀ n, t[0]? = some n → n.c = 0) (hl : t.length ≤ 100000) (hC : C ≤ 1000000) (hes : ∀ e ∈ es, 0 ≤ e.c ∧ e.c ≤ C) {i : Nat} {x : Nd} (hx : t[i]? = some x) : ∀ (d : Nat) (n : Nd), t[i + d]? = some n → x.c ≤ n.c
  | 0, n, hn => by rw [Nat.add_zero, hx] at hn; cases hn; exact Int.le_refl _
  | d + 1, n, hn => by
    have hlt := (List.getElem?_eq_some_iff.1 hn).1
    have hy : t[i + d]? = some t[i + d] := List.getElem?_eq_getElem (by omega)
    exact Int.le_trans (h.rise hc h0 hl hC hes hx d _ hy) (h.rise1 hc h0 hl hC hes hy hn)
/-- No edge makes a way shorter than the tree's. -/
theorem Grown.short (h : Grown bt es t) (hc : Cheap bt) {C : Int} (h0 : ∀ n, t[0]? = some n → n.c = 0) (hl : t.length ≤ 100000) (hC : C ≤ 1000000) (hes : ∀ e ∈ es, 0 ≤ e.c ∧ e.c ≤ C) {e : Eg} (he : e ∈ es) {a b : Nat} {x y : Nd} (hx : t[a]? = some x) (hxv : x.v = e.f) (hy : t[b]? = some y) (hyv : y.v = e.t) : y.c ≤ x.c + e.c := by
  rcases Nat.lt_or_ge a b with hab | hab
  · exact h.least hc h0 hl hC hes he hab hx hxv hy (fun m hm hv => by
      obtain ⟨i, hi⟩ := List.mem_iff_getElem?.1 hm
      rw [List.getElem?_take] at hi
      split at hi
      · have := h.inj hi hy (hv.trans hyv.symm); omega
      · cases hi)
  · have := h.rise hc h0 hl hC hes hy (a - b) x (by rw [show b + (a - b) = a from by omega]; exact hx)
    have := (hes e he).1
    omega
/-- Where nobody is best no edge leads on. -/
theorem closed (hb : bestL bt t es = none) {e : Eg} (he : e ∈ es) {a : Nat} (ha : placeL t e.f = some a) : ∃ b, placeL t e.t = some b := by
  have := (best_none hb).2 e he
  unfold candL at this
  rw [ha] at this
  cases hq : placeL t e.t with
  | none => rw [hq] at this; cases this
  | some b => exact ⟨b, rfl⟩
end
/-- The tree of a map whose edges lie among its vertices ends where nobody is best. -/
theorem tree_end {bt : List Nd → Nd → Nd → Bool} {vs : List Vt} {es : List Eg} {root : Vt} (hr : root ∈ vs) (hto : ∀ e ∈ es, e.t ∈ vs) :
    Grown bt es (treeN bt es vs.length [rootN root]) ∧ (∃ r, treeN bt es vs.length [rootN root] = rootN root :: r) ∧ bestL bt (treeN bt es vs.length [rootN root]) es = none ∧ (∀ n ∈ treeN bt es vs.length [rootN root], n.v ∈ vs) ∧ ((treeN bt es vs.length [rootN root]).map Nd.v).Nodup := by
  obtain ⟨h1, ⟨r, h2⟩, h3⟩ := treeN_grown vs.length [rootN root] (grown_one bt es _)
  have hin : ∀ n ∈ treeN bt es vs.length [rootN root], n.v ∈ vs := fun n hn => by
    obtain ⟨j, hj⟩ := List.mem_iff_getElem?.1 hn
    rcases Nat.eq_zero_or_pos j with rfl | hp
    · rw [h2] at hj
      cases hj
      exact hr
    · obtain ⟨e, he, _, _, _, _, _, hv, _⟩ := h1.edge hp hj
      rw [← hv]; exact hto e he
  have hnd : ((treeN bt es vs.length [rootN root]).map Nd.v).Nodup := by
    refine List.pairwise_iff_getElem.2 (fun i j hi hj hij e => ?_)
    rw [List.length_map] at hi hj
    have := h1.inj (List.getElem?_eq_getElem hi) (List.getElem?_eq_getElem hj) (by simpa using e)
    omega
  refine ⟨h1, ⟨r, by rw [h2]; rfl⟩, ?_, hin, hnd⟩
  rcases h3 with h3 | h3
  · exact h3
  · have := pig hnd (fun x hx => by
      obtain ⟨n, hn, rfl⟩ := List.mem_map.1 hx
      exact hin n hn)
    rw [List.length_map, h3, List.length_singleton] at this
    omega
end Go.Proofs.Ytmocggibcniggaa.Kt
namespace Go.Proofs.Ytmocggibcniggaa.Kt
open Go Kw Go.Proofs
attribute [local irreducible] Kw.GI Kw.GR Kw.FnR Kw.FnX
set_option maxHeartbeats 8000000
set_option maxRecDepth 100000
/-! ### advertisements that are built: their links are slices of the list's own -/
abbrev Ls.rowO (x : Ls) : List RV := [.v (.int .i64 x.age), .v (.int .i64 x.kind), .v (.int .i64 x.id), .v (.int .i64 x.adv), .v (.int .i64 x.seq), .v (.int .i64 x.sum), .v (.int .i64 x.len), .v (.int .i64 x.fl), .os 54 4 (x.lk.map Lk.row), .v (.int .i64 x.bits), .fs 1 (x.rt.map nRow), .fs 2 (x.vt.map Vt.row)]
abbrev seO (l : List Ls) : SE := ⟨51, 12, l.map Ls.rowO, true⟩
abbrev eO (l : List Ls) : Option SE := some (seO l)
theorem frz_rowO : ∀ (l : List Ls), frzLL (l.map Ls.rowO) = l.map Ls.row
  | [] => by unfold List.map frzLL; rfl
  | x :: l => by
    rw [List.map_cons, List.map_cons]
    unfold frzLL
    rw [frz_rowO l]
    rfl
theorem frz_seO (l : List Ls) : frzE (seO l) = l.map Ls.row := frz_rowO l
/-- With one link more. -/
def Ls.add (x : Ls) (q : Lk) : Ls := { x with lk := x.lk ++ [q] }
theorem rowO_add (x : Ls) (q : Lk) : (x.rowO.set 8 .any).set 8 (.os 54 4 (x.lk.map Lk.row ++ [q.row])) = (x.add q).rowO := by
  show [_, _, _, _, _, _, _, _, _, _, _, _] = _
  unfold Ls.add Ls.rowO
  simp only [List.map_append, List.map_cons, List.map_nil]
theorem eO_link {l : List Ls} {a : Nat} (x : Ls) (q : Lk) (T : Sp) : (some (⟨51, 12, ((l.map Ls.rowO).set a (x.rowO.set 8 .any)).set a ((x.rowO.set 8 .any).set 8 (.os 54 4 (x.lk.map Lk.row ++ [q.row]))), true⟩ : SE) :: T : Sp) = eO (l.set a (x.add q)) :: T := by
  rw [List.set_set, rowO_add, ← List.map_set]
/-! A row that was laid out by a literal. -/
def cellLe (x y : RV) : Prop := ∀ (Y Z : Nat → Prop) (w : World) (u : Value) (f : List Nat), OR Y Z w x u f → OR Y Z w y u f
theorem le_same (x : RV) : cellLe x x := fun _ _ _ _ _ h => h
theorem le_os (e : TypeId) (sz : Nat) : cellLe (.v (.slice none 0 0)) (.os e sz []) := fun Y Z w u f h => by
  have h := (OR_cr (x := .v (.slice none 0 0)) rfl).1 h
  obtain ⟨h1, rfl⟩ := h
  unfold CR at h1
  rw [h1.1]
  exact ⟨[], ⟨by simp, .inl ⟨rfl, rfl⟩⟩, by unfold Kw.Rows; rfl, rfl⟩
theorem le_fs (sz : Nat) : cellLe (.v (.slice none 0 0)) (.fs sz []) := fun Y Z w u f h => by
  have h := (OR_cr (x := .v (.slice none 0 0)) rfl).1 h
  obtain ⟨h1, rfl⟩ := h
  refine (OR_cr rfl).2 ⟨?_, rfl⟩
  unfold CR at h1 ⊢
  exact ⟨none, 0, by simpa using h1.1, Nat.le_refl _, Nat.zero_le _, .inl rfl⟩
def RowLe : List RV → List RV → Prop
  | [], [] => True
  | x :: xs, y :: ys => cellLe x y ∧ RowLe xs ys
  | _, _ => False
theorem RowLe.len : ∀ {xs ys : List RV}, RowLe xs ys → xs.length = ys.length
  | [], [], _ => rfl
  | x :: xs, y :: ys, h => by simp [RowLe.len (xs := xs) (ys := ys) h.2]
  | [], _ :: _, h => h.elim
  | _ :: _, [], h => h.elim
section
variable {Y Z : Nat → Prop} {w : World}
theorem ORL_le : ∀ {xs ys : List RV} {us : List Value} {f : List Nat}, RowLe xs ys → ORL Y Z w xs us f → ORL Y Z w ys us f
  | [], [], us, f, _, h => h
  | x :: xs, y :: ys, us, f, hl, h => by
    unfold ORL at h ⊢
    obtain ⟨u, r, f1, g, h1, h2, h3, h4⟩ := h
    exact ⟨u, r, f1, g, h1, hl.1 _ _ _ _ _ h2, ORL_le (xs := xs) (ys := ys) hl.2 h3, h4⟩
  | [], _ :: _, _, _, h, _ => h.elim
  | _ :: _, [], _, _, h, _ => h.elim
theorem ORows_last {sz : Nat} {r r' : List RV} (hr : RowLe r r') : ∀ {L : List (List RV)} {us : List Value} {f : List Nat}, ORows Y Z w sz (L ++ [r]) us f → ORows Y Z w sz (L ++ [r']) us f
  | [], us, f, h => by
    have h : ORows Y Z w sz [r] us f := h
    show ORows Y Z w sz [r'] us f
    unfold ORows at h ⊢
    obtain ⟨a, b, f1, g, h1, h2, h3, h4, h5⟩ := h
    exact ⟨a, b, f1, g, h1, hr.len.symm.trans h2, ORL_le hr h3, by unfold ORows at h4 ⊢; exact h4, h5⟩
  | c :: L, us, f, h => by
    have h : ORows Y Z w sz (c :: (L ++ [r])) us f := h
    show ORows Y Z w sz (c :: (L ++ [r'])) us f
    unfold ORows at h ⊢
    obtain ⟨a, b, f1, g, h1, h2, h3, h4, h5⟩ := h
    exact ⟨a, b, f1, g, h1, h2, h3, ORows_last hr h4, h5⟩
end
theorem rows_last {e : TypeId} {sz : Nat} {L : List (List RV)} {r r' : List RV} (hr : RowLe r r') : ∀ (Y Z : Nat → Prop) w cs f, RowsE Y Z w ⟨e, sz, L ++ [r], true⟩ cs f → RowsE Y Z w ⟨e, sz, L ++ [r'], true⟩ cs f :=
  fun Y Z w cs f h => by unfold RowsE at h ⊢; exact ORows_last hr h
theorem rows_nest {e : TypeId} {sz : Nat} {L : List (List RV)} : ∀ (Y Z : Nat → Prop) w cs f, RowsE Y Z w ⟨e, sz, L, false⟩ cs f → RowsE Y Z w ⟨e, sz, L, true⟩ cs f :=
  fun Y Z w cs f h => by unfold RowsE at h ⊢; obtain ⟨h1, rfl⟩ := h; exact ORows_of_Rows h1
/-- A row as a literal lays it: no lists, but those of the routers. -/
theorem raw_le {a b c d e f g fl bt : Int} {R : RV} {rt : List Int} (hR : cellLe R (.fs 1 (rt.map nRow))) :
    RowLe [.v (.int .i64 a), .v (.int .i64 b), .v (.int .i64 c), .v (.int .i64 d), .v (.int .i64 e), .v (.int .i64 f), .v (.int .i64 g), .v (.int .i64 fl), .v (.slice none 0 0), .v (.int .i64 bt), R, .v (.slice none 0 0)] (Ls.rowO ⟨a, b, c, d, e, f, g, fl, [], bt, rt, []⟩) :=
  ⟨le_same _, le_same _, le_same _, le_same _, le_same _, le_same _, le_same _, le_same _, le_os _ _, le_same _, hR, le_fs _, trivial⟩
theorem eO_snoc (l : List Ls) (x : Ls) (r : List RV) (h : r = x.rowO) : seO (l ++ [x]) = ⟨51, 12, l.map Ls.rowO ++ [r], true⟩ := by
  rw [h]
  show (⟨_, _, (l ++ [x]).map Ls.rowO, _⟩ : SE) = _
  rw [List.map_append]
  rfl
/-! ### what Graph makes -/
def LkOk (q : Lk) : Prop := 0 ≤ q.c ∧ q.c ≤ 10 ∧ (q.k = 3 → q.d = 4294967040 ∧ 0 ≤ q.i ∧ q.i ≤ 1000000 ∧ q.i % 256 = 0)
/-- So many routers, from 1 on; each has at most N links. -/
structure Gs (k N : Nat) (gs : List Ls) : Prop where
  len : gs.length = k
  el : ∀ (j : Nat) (x : Ls), gs[j]? = some x → x = ⟨0, 1, j + 1, j + 1, 0, 0, 0, 0, x.lk, 0, [], []⟩ ∧ (∀ q ∈ x.lk, LkOk q) ∧ x.lk.length ≤ N
theorem Gs.mono {k N M : Nat} {gs : List Ls} (h : Gs k N gs) (hm : N ≤ M) : Gs k M gs := ⟨h.len, fun j x hx => by
  obtain ⟨h1, h2, h3⟩ := h.el j x hx
  exact ⟨h1, h2, Nat.le_trans h3 hm⟩⟩
theorem Gs.add {k N : Nat} {gs : List Ls} (h : Gs k N gs) {a : Nat} {x : Ls} (hx : gs[a]? = some x) {q : Lk} (hq : LkOk q) : Gs k (N + 1) (gs.set a (x.add q)) := by
  refine ⟨by rw [List.length_set]; exact h.len, fun j y hy => ?_⟩
  rcases get_set hy with ⟨rfl, rfl, _⟩ | ⟨_, hy⟩
  · obtain ⟨h1, h2, h3⟩ := h.el a x hx
    refine ⟨by unfold Ls.add; rw [h1], fun q' hq' => ?_, ?_⟩
    · rcases List.mem_append.1 hq' with hq' | hq'
      · exact h2 q' hq'
      · rw [List.mem_singleton.1 hq']; exact hq
    · show (x.lk ++ [q]).length ≤ _
      rw [List.length_append, List.length_singleton]; omega
  · obtain ⟨h1, h2, h3⟩ := h.el j y hy
    exact ⟨h1, h2, by omega⟩
theorem Gs.snoc {k N : Nat} {gs : List Ls} (h : Gs k N gs) : Gs (k + 1) N (gs ++ [⟨0, 1, k + 1, k + 1, 0, 0, 0, 0, [], 0, [], []⟩]) := by
  refine ⟨by rw [List.length_append, h.len]; rfl, fun j y hy => ?_⟩
  rcases get_snoc hy with hy | ⟨rfl, rfl⟩
  · exact h.el j y hy
  · refine ⟨?_, ?_, Nat.zero_le _⟩
    · show Ls.mk _ _ _ _ _ _ _ _ _ _ _ _ = _
      rw [h.len]
    · intro q hq; cases hq
theorem Gs.nil : Gs 0 0 [] := ⟨rfl, fun j x h => by simp at h⟩
/-- Networks. -/
def NsOk (ns : List Ls) : Prop := ∀ y ∈ ns, y = ⟨0, 2, y.id, y.adv, 0, 0, 0, 0, [], 24, y.rt, []⟩ ∧ y.rt.length ≤ 6 ∧ 0 ≤ y.id ∧ y.id ≤ 1000000 ∧ y.id % 256 = 0
theorem NsOk.nil : NsOk [] := fun y hy => by cases hy
structure GrOk (n : Int) (l : List Ls) : Prop where
  ex : ∃ (k : Nat) (gs ns : List Ls), (k : Int) = 1 + n % 6 ∧ l = gs ++ ns ∧ Gs k 200 gs ∧ NsOk ns ∧ ns.length ≤ 8
theorem GrOk.few {n : Int} {l : List Ls} (h : GrOk n l) : Few l := by
  obtain ⟨k, gs, ns, h1, rfl, h2, h3, h4⟩ := h.ex
  have hk : k ≤ 6 := by omega
  have := h2.len
  refine ⟨by rw [List.length_append]; omega, fun x hx => ?_, fun x hx => ?_⟩
  · rcases List.mem_append.1 hx with hx | hx
    · obtain ⟨j, hj⟩ := List.mem_iff_getElem?.1 hx
      have := (h2.el j x hj).2.2
      omega
    · rw [(h3 x hx).1]; exact Nat.zero_le _
  · rcases List.mem_append.1 hx with hx | hx
    · obtain ⟨j, hj⟩ := List.mem_iff_getElem?.1 hx
      rw [(h2.el j x hj).1]; exact Nat.zero_le _
    · have := (h3 x hx).2.1
      omega
abbrev u8 (n : Int) : AV := .r (.v (.int .u8 n))
abbrev rs8 (l : List Int) : AV := .r (.rs 1 (l.map fun n => [.v (.int .u8 n)]))
abbrev rsB (l : List Bool) : AV := .r (.rs 1 (l.map fun n => [.v (.bool n)]))
abbrev RG (n : Int) : AV → Hp → Sp → Prop := fun r H S => ∃ l, GrOk n l ∧ r = .sl 0 ∧ H = [] ∧ S = [eO l]
theorem stOL_O (x : Ls) : stOL x.rowO = true := by
  show (true && (true && (true && (true && (true && (true && (true && (true && (stLL (x.lk.map Lk.row) && (true && (stLL (x.rt.map nRow) && (stLL (x.vt.map Vt.row) && true)))))))))))) = true
  rw [stLL_K, stLL_N, stLL_V]
  rfl
theorem stOLL_O : ∀ (l : List Ls), stOLL (l.map Ls.rowO) = true
  | [] => rfl
  | x :: l => by
    rw [List.map_cons]
    unfold stOLL
    rw [stOL_O, stOLL_O l]; rfl
theorem pG {n : Int} : ∀ r H1 S1, RG n r H1 S1 → stA r = true ∧ StH H1 ∧ StS S1 := by
  rintro r H S ⟨l, _, rfl, rfl, rfl⟩
  refine ⟨rfl, StH.nil, fun e he s hs => ?_⟩
  rw [List.mem_singleton] at he
  subst he
  cases hs
  exact stOLL_O l
theorem cost_rm {e : Int} (m : Int) (h0 : 0 ≤ e) (hm : 0 < m) (hm' : m ≤ 6) : 0 ≤ wr .i64 (1 + rm e m) ∧ wr .i64 (1 + rm e m) ≤ 6 := by
  rw [rm_pos h0]
  have := Int.emod_nonneg e (show m ≠ 0 by omega)
  have := Int.emod_lt_of_pos e hm
  rw [wr_i64 (by omega) (by omega)]
  omega
end Go.Proofs.Ytmocggibcniggaa.Kt
namespace Go.Proofs.Ytmocggibcniggaa.Kt
open Go Kw Go.Proofs
/-! ### what an edge costs -/
theorem edRs_c {l : List Ls} {v : Vt} {rt : List Int} {e : Eg} : ∀ {j : Nat}, e ∈ edRs l v rt j → e.c = 0
  | 0, h => by cases h
  | j + 1, h => by
    unfold edRs at h
    rcases List.mem_append.1 h with h | h
    · exact edRs_c h
    · split at h
      · unfold edR at h
        split at h
        · cases h
        · split at h
          · rw [List.mem_singleton.1 h]
          · cases h
      · cases h
theorem from_cost {l : List Ls} {v : Vt} {e : Eg} (h : e ∈ fromL l v) : e.c = 0 ∨ ∃ x ∈ l, ∃ k ∈ x.lk, e.c = k.c := by
  unfold fromL at h
  rcases List.mem_append.1 h with h | h
  · right
    obtain ⟨k, hk, he⟩ := List.mem_flatMap.1 h
    cases hx : findL l v with
    | none => rw [hx] at hk; cases hk
    | some x =>
      rw [hx] at hk
      refine ⟨x, find_mem hx, k, hk, ?_⟩
      rcases List.mem_append.1 he with he | he
      · unfold edK1 at he
        split at he
        · split at he
          · rw [List.mem_singleton.1 he]
          · cases he
        · cases he
      · unfold edK2 at he
        split at he
        · split at he
          · rw [List.mem_singleton.1 he]
          · cases he
        · cases he
  · exact .inl (edRs_c h)
theorem GrOk.link {n : Int} {l : List Ls} (h : GrOk n l) : ∀ x ∈ l, ∀ k ∈ x.lk, LkOk k := by
  obtain ⟨k, gs, ns, h1, rfl, h2, h3, h4⟩ := h.ex
  intro x hx q hq
  rcases List.mem_append.1 hx with hx | hx
  · obtain ⟨j, hj⟩ := List.mem_iff_getElem?.1 hx
    exact (h2.el j x hj).2.1 q hq
  · rw [(h3 x hx).1] at hq; cases hq
theorem GrOk.cost {n : Int} {l : List Ls} (h : GrOk n l) : ∀ e ∈ (mapL l).es, 0 ≤ e.c ∧ e.c ≤ 10 := fun e he => by
  obtain ⟨v, _, hv⟩ := List.mem_flatMap.1 he
  rcases from_cost hv with h0 | ⟨x, hx, k, hk, h0⟩
  · omega
  · have := h.link x hx k hk
    rw [h0]; exact ⟨this.1, this.2.1⟩
/-- The tree of a map, from one of its vertices. -/
structure Tr (l : List Ls) (v : Vt) (t : List Nd) : Prop where
  gr : Grown soon (mapL l).es t
  hd : t[0]? = some (rootN v)
  en : bestL soon t (mapL l).es = none
  len : t.length ≤ 100000
  vs : ∀ n ∈ t, n.v ∈ (mapL l).vs
  nd : (t.map Nd.v).Nodup
theorem tr_of {l : List Ls} (h : Few l) {v : Vt} (hv : v ∈ (mapL l).vs) : Tr l v (refTree (mapL l) v) := by
  have hr : refTree (mapL l) v = treeN soon (mapL l).es (mapL l).vs.length [rootN v] := by
    unfold refTree
    rw [List.any_eq_true.2 ⟨v, hv, decide_eq_true rfl⟩]
  have hl := refTree_len (mapL l) v
  have := map_vs h
  obtain ⟨h1, ⟨r, h2⟩, h3, h4, h5⟩ := tree_end (bt := soon) (es := (mapL l).es) hv (fun e he => (map_to he).1)
  rw [← hr] at h1 h2 h3 h4 h5
  exact ⟨h1, by rw [h2]; rfl, h3, by omega, h4, h5⟩
theorem Tr.zero {l : List Ls} {v : Vt} {t : List Nd} (h : Tr l v t) : ∀ n, t[0]? = some n → n.c = 0 := fun n hn => by
  rw [h.hd] at hn; cases hn; rfl
theorem Tr.pos {l : List Ls} {v : Vt} {t : List Nd} (h : Tr l v t) : 0 < t.length := (List.getElem?_eq_some_iff.1 h.hd).1
theorem Tr.cost {l : List Ls} {v : Vt} {t : List Nd} (h : Tr l v t) (hc : ∀ e ∈ (mapL l).es, 0 ≤ e.c ∧ e.c ≤ 1000000) {j : Nat} {n : Nd} (hn : t[j]? = some n) : 0 ≤ n.c ∧ n.c ≤ 100000000000 := by
  obtain ⟨h1, h2⟩ := h.gr.cost (C := 1000000) h.zero h.len (by omega) hc j n hn
  have := (List.getElem?_eq_some_iff.1 hn).1
  have := h.len
  omega
end Go.Proofs.Ytmocggibcniggaa.Kt
