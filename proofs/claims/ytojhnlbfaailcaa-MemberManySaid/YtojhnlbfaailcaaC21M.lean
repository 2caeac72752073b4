/- Part of the proofs of this seat's statements: what the functions compute. No condition. -/
import Derived.Test.YtojhnlbfaailcaaC21J
import Derived.Test.YtojhnlbfaailcaaC21L
set_option linter.unusedSimpArgs false
set_option linter.unusedVariables false
namespace Go.Proofs.Ytojhnlbfaailcaa.Kt
open Go Kw Go.Proofs
attribute [local irreducible] Kw.GI Kw.GR Kw.FnR Kw.FnX
set_option maxHeartbeats 4000000
set_option maxRecDepth 100000
theorem drop_has {xs : List Int} {j : Nat} {x t : Int} (h : xs[j]? = some x) : (xs.drop j).contains t = (t == x || (xs.drop (j + 1)).contains t) := by
  rw [List.drop_eq_getElem_cons (List.getElem?_eq_some_iff.1 h).1, (List.getElem?_eq_some_iff.1 h).2, List.contains_cons]
theorem Has_ok (xs : List Int) (t : Int) (hl : xs.length < 1000000000) : FnR Try.prog 17 [rsI xs, I t] (RB (xs.contains t)) := by
  refine fnR_intro (T := TT) (n := 18) Try.func17 rfl rfl rfl (fun w Z => ?_)
  (repeat (first | (refine r_end ?_) | (refine r_op ?_; first | refine r_pure hT rfl rfl rfl rfl rfl rfl ?_ | refine r_load hT rfl rfl rfl rfl rfl rfl rfl rfl rfl ?_ | refine r_box rfl rfl rfl rfl rfl rfl rfl rfl rfl ?_ | refine r_store hT rfl rfl rfl rfl rfl rfl rfl rfl rfl rfl ?_ | refine r_off rfl rfl rfl rfl rfl ?_ | refine r_alloc hT rfl rfl rfl rfl rfl rfl rfl rfl rfl ?_ | refine r_lit hT rfl rfl rfl rfl rfl rfl rfl rfl rfl rfl rfl rfl rfl ?_ | refine r_off0 rfl rfl rfl rfl ?_) | (refine gi_seq ?_) | (refine gi_plain ?_) | (refine gi_skip ?_) | (refine gi_block ?_) | (refine gi_inBlock ?_) | (refine gi_exit rfl ?_) | (refine gi_cnd ?_; first | refine gi_true rfl ?_ | refine gi_false rfl ?_) | (refine gi_label ?_)))
  refine gi_loop (σ := Nat) (fun s => [(5, I s), (1, I t), (0, rsI xs), (4, Bo false)]) (fun _ => []) (fun _ => []) (fun s => s ≤ xs.length ∧ (xs.drop s).contains t = xs.contains t) (fun s => xs.length - s) 0 ⟨Nat.zero_le _, rfl⟩ ⟨rfl, rfl, rfl, rfl, trivial⟩ trivial trivial (fun _ => rfl) (fun s hs next => ?_)
  obtain ⟨h1, h2⟩ := hs
  (repeat (first | (refine r_end ?_) | (refine r_op ?_; first | refine r_pure hT rfl rfl rfl rfl rfl rfl ?_ | refine r_load hT rfl rfl rfl rfl rfl rfl rfl rfl rfl ?_ | refine r_box rfl rfl rfl rfl rfl rfl rfl rfl rfl ?_ | refine r_store hT rfl rfl rfl rfl rfl rfl rfl rfl rfl rfl ?_ | refine r_off rfl rfl rfl rfl rfl ?_ | refine r_alloc hT rfl rfl rfl rfl rfl rfl rfl rfl rfl ?_ | refine r_lit hT rfl rfl rfl rfl rfl rfl rfl rfl rfl rfl rfl rfl rfl ?_ | refine r_off0 rfl rfl rfl rfl ?_) | (refine gi_seq ?_) | (refine gi_plain ?_) | (refine gi_skip ?_) | (refine gi_block ?_) | (refine gi_inBlock ?_) | (refine gi_exit rfl ?_) | (refine gi_cnd ?_; first | refine gi_true rfl ?_ | refine gi_false rfl ?_) | (refine gi_label ?_)))
  refine gi_lt (q := ((xs.map fun x => [RV.v (.int .i64 x)]).length : Int)) rfl (fun h3 => ?_) (fun h3 => ?_)
  · rw [List.length_map] at h3
    have hlt : s < xs.length := by omega
    obtain ⟨x, hx⟩ : ∃ x, xs[s]? = some x := ⟨_, List.getElem?_eq_getElem hlt⟩
    rw [drop_has hx] at h2
    (repeat (first | (refine r_end ?_) | (refine r_op ?_; first | refine r_pure hT rfl rfl rfl rfl rfl rfl ?_ | refine r_load hT rfl rfl rfl rfl rfl rfl rfl rfl rfl ?_ | refine r_box rfl rfl rfl rfl rfl rfl rfl rfl rfl ?_ | refine r_store hT rfl rfl rfl rfl rfl rfl rfl rfl rfl rfl ?_ | refine r_off rfl rfl rfl rfl rfl ?_ | refine r_alloc hT rfl rfl rfl rfl rfl rfl rfl rfl rfl ?_ | refine r_lit hT rfl rfl rfl rfl rfl rfl rfl rfl rfl rfl rfl rfl rfl ?_ | refine r_off0 rfl rfl rfl rfl ?_) | (refine gi_seq ?_) | (refine gi_plain ?_) | (refine gi_skip ?_) | (refine gi_block ?_) | (refine gi_inBlock ?_) | (refine gi_exit rfl ?_) | (refine gi_cnd ?_; first | refine gi_true rfl ?_ | refine gi_false rfl ?_) | (refine gi_label ?_)))
    refine r_idx (row := [.v (.int .i64 x)]) hT rfl rfl rfl rfl rfl rfl rfl rfl rfl rfl rfl rfl (by omega) (by simp [hx]) ?_
    (repeat (first | (refine r_end ?_) | (refine r_op ?_; first | refine r_pure hT rfl rfl rfl rfl rfl rfl ?_ | refine r_load hT rfl rfl rfl rfl rfl rfl rfl rfl rfl ?_ | refine r_box rfl rfl rfl rfl rfl rfl rfl rfl rfl ?_ | refine r_store hT rfl rfl rfl rfl rfl rfl rfl rfl rfl rfl ?_ | refine r_off rfl rfl rfl rfl rfl ?_ | refine r_alloc hT rfl rfl rfl rfl rfl rfl rfl rfl rfl ?_ | refine r_lit hT rfl rfl rfl rfl rfl rfl rfl rfl rfl rfl rfl rfl rfl ?_ | refine r_off0 rfl rfl rfl rfl ?_) | (refine gi_seq ?_) | (refine gi_plain ?_) | (refine gi_skip ?_) | (refine gi_block ?_) | (refine gi_inBlock ?_) | (refine gi_exit rfl ?_) | (refine gi_cnd ?_; first | refine gi_true rfl ?_ | refine gi_false rfl ?_) | (refine gi_label ?_)))
    refine gi_eq rfl (fun h4 => ?_) (fun h4 => ?_)
    · (repeat (first | (refine r_end ?_) | (refine r_op ?_; first | refine r_pure hT rfl rfl rfl rfl rfl rfl ?_ | refine r_load hT rfl rfl rfl rfl rfl rfl rfl rfl rfl ?_ | refine r_box rfl rfl rfl rfl rfl rfl rfl rfl rfl ?_ | refine r_store hT rfl rfl rfl rfl rfl rfl rfl rfl rfl rfl ?_ | refine r_off rfl rfl rfl rfl rfl ?_ | refine r_alloc hT rfl rfl rfl rfl rfl rfl rfl rfl rfl ?_ | refine r_lit hT rfl rfl rfl rfl rfl rfl rfl rfl rfl rfl rfl rfl rfl ?_ | refine r_off0 rfl rfl rfl rfl ?_) | (refine gi_seq ?_) | (refine gi_plain ?_) | (refine gi_skip ?_) | (refine gi_block ?_) | (refine gi_inBlock ?_) | (refine gi_exit rfl ?_) | (refine gi_cnd ?_; first | refine gi_true rfl ?_ | refine gi_false rfl ?_) | (refine gi_label ?_)))
      refine gi_retW hT Try.func17 rfl rfl [] rfl rfl rfl rfl ?_
      refine ⟨?_, rfl⟩
      rw [← h2, h4]
      simp
    · (repeat (first | (refine r_end ?_) | (refine r_op ?_; first | refine r_pure hT rfl rfl rfl rfl rfl rfl ?_ | refine r_load hT rfl rfl rfl rfl rfl rfl rfl rfl rfl ?_ | refine r_box rfl rfl rfl rfl rfl rfl rfl rfl rfl ?_ | refine r_store hT rfl rfl rfl rfl rfl rfl rfl rfl rfl rfl ?_ | refine r_off rfl rfl rfl rfl rfl ?_ | refine r_alloc hT rfl rfl rfl rfl rfl rfl rfl rfl rfl ?_ | refine r_lit hT rfl rfl rfl rfl rfl rfl rfl rfl rfl rfl rfl rfl rfl ?_ | refine r_off0 rfl rfl rfl rfl ?_) | (refine gi_seq ?_) | (refine gi_plain ?_) | (refine gi_skip ?_) | (refine gi_block ?_) | (refine gi_inBlock ?_) | (refine gi_exit rfl ?_) | (refine gi_cnd ?_; first | refine gi_true rfl ?_ | refine gi_false rfl ?_) | (refine gi_label ?_)))
      refine next (s + 1) _ _ _ ⟨hlt, ?_⟩ (by omega) ⟨?_, rfl, rfl, rfl, trivial⟩ trivial trivial
      · rw [← h2]; simp [Ne.symm h4]
      · show some (I (wr .i64 ((s : Int) + 1))) = _
        rw [wr_i64 (by omega) (by omega)]
        simp
  · rw [List.length_map] at h3
    (repeat (first | (refine r_end ?_) | (refine r_op ?_; first | refine r_pure hT rfl rfl rfl rfl rfl rfl ?_ | refine r_load hT rfl rfl rfl rfl rfl rfl rfl rfl rfl ?_ | refine r_box rfl rfl rfl rfl rfl rfl rfl rfl rfl ?_ | refine r_store hT rfl rfl rfl rfl rfl rfl rfl rfl rfl rfl ?_ | refine r_off rfl rfl rfl rfl rfl ?_ | refine r_alloc hT rfl rfl rfl rfl rfl rfl rfl rfl rfl ?_ | refine r_lit hT rfl rfl rfl rfl rfl rfl rfl rfl rfl rfl rfl rfl rfl ?_ | refine r_off0 rfl rfl rfl rfl ?_) | (refine gi_seq ?_) | (refine gi_plain ?_) | (refine gi_skip ?_) | (refine gi_block ?_) | (refine gi_inBlock ?_) | (refine gi_exit rfl ?_) | (refine gi_cnd ?_; first | refine gi_true rfl ?_ | refine gi_false rfl ?_) | (refine gi_label ?_)))
    refine gi_retW hT Try.func17 rfl rfl [] rfl rfl rfl rfl ?_
    have : s = xs.length := by omega
    subst this
    rw [List.drop_length] at h2
    refine ⟨?_, rfl⟩
    rw [← h2]
    rfl
def fe (g : Int) : En := ⟨g, 58, 0, 0, 0⟩
def insG : List Int → Int → List Int
  | [], g => [g]
  | y :: l, g => if y < g then y :: insG l g else if y = g then y :: l else g :: y :: l
theorem rep_fe : ∀ (G : List Int) (g : Int), rep (G.map fe) g false = (insG G g).map fe
  | [], g => rfl
  | y :: G, g => by
    rw [List.map_cons]
    unfold rep insG
    show (if y < g then _ else if y = g then _ else _) = _
    by_cases h : y < g
    · rw [if_pos h, if_pos h, rep_fe G g]; rfl
    · rw [if_neg h, if_neg h]
      by_cases h2 : y = g
      · rw [if_pos h2, if_pos h2]; rfl
      · rw [if_neg h2, if_neg h2]; rfl
theorem insG_mem : ∀ (G : List Int) (g x : Int), x ∈ insG G g ↔ x = g ∨ x ∈ G
  | [], g, x => by simp [insG]
  | y :: G, g, x => by
    unfold insG
    split
    · rw [List.mem_cons, insG_mem G g x, List.mem_cons]
      constructor
      · rintro (h | h | h) <;> simp [h]
      · rintro (h | h | h) <;> simp [h]
    · split
      · rename_i h
        subst h
        simp
      · simp
theorem insG_srt : ∀ (G : List Int) (g : Int), G.Pairwise (· < ·) → (insG G g).Pairwise (· < ·)
  | [], g, _ => List.pairwise_singleton _ _
  | y :: G, g, h => by
    rw [List.pairwise_cons] at h
    unfold insG
    split
    · rename_i hy
      rw [List.pairwise_cons]
      refine ⟨fun z hz => ?_, insG_srt G g h.2⟩
      rcases (insG_mem G g z).1 hz with rfl | hz
      · exact hy
      · exact h.1 z hz
    · split
      · rw [List.pairwise_cons]; exact h
      · rename_i h1 h2
        rw [List.pairwise_cons, List.pairwise_cons]
        refine ⟨fun z hz => ?_, h⟩
        rcases List.mem_cons.1 hz with rfl | hz
        · omega
        · have := h.1 z hz; omega
theorem insG_len : ∀ (G : List Int) (g : Int), (insG G g).length ≤ G.length + 1
  | [], g => Nat.le_refl _
  | y :: G, g => by
    unfold insG
    have := insG_len G g
    split
    · simp; omega
    · split <;> simp
theorem fe_srt {G : List Int} (h : G.Pairwise (· < ·)) : Srt (G.map fe) := by
  unfold Srt
  rw [List.pairwise_map]
  exact h
theorem fe_ids (G : List Int) : (G.map fe).map En.id = G := by
  rw [List.map_map]
  exact List.map_id G
/-- what is there k ticks after one was left -/
def stt (X : Int) (k : Nat) (y : Int) : Option En := if y = X then (bs X k)[0]? else some ⟨y, 58 - k, 0, 0, 0⟩
theorem rest_1 {g l q n : Int} (hl : 1 ≤ l ∧ l ≤ 100) (hq : q = 0 ∨ q = 1) (hn : 0 ≤ n ∧ n ≤ 10) : restF ⟨g, l, 0, q, n⟩ = if l = 1 then none else some ⟨g, l - 1, 0, if q = 1 ∧ n = 1 then 0 else q, if q = 1 ∧ n = 1 then 2 else if q = 1 then n - 1 else n⟩ := by
  have h := rest_e (g := g) hl hq hn
  cases hr : restF ⟨g, l, 0, q, n⟩ with
  | none =>
    rw [List.filterMap_cons_none hr] at h
    by_cases h1 : l = 1
    · rw [if_pos h1]
    · rw [if_neg h1] at h; cases h
  | some e =>
    rw [List.filterMap_cons_some hr] at h
    by_cases h1 : l = 1
    · rw [if_pos h1] at h; cases h
    · rw [if_neg h1] at h ⊢
      simp only [List.filterMap_nil, List.cons.injEq, and_true] at h
      rw [h]
theorem stt_tick (X : Int) (k : Nat) (hk : k < 10) (G : List Int) : (G.filterMap (stt X k)).filterMap restF = G.filterMap (stt X (k + 1)) := by
  rw [List.filterMap_filterMap]
  congr 1
  funext y
  unfold stt
  by_cases h : y = X
  · rw [if_pos h, if_pos h]
    match k with
    | 0 => show restF ⟨X, 4, 0, 1, 2⟩ = _; rw [rest_1 (by decide) (.inr rfl) (by decide)]; rfl
    | 1 => show restF ⟨X, 3, 0, 1, 1⟩ = _; rw [rest_1 (by decide) (.inr rfl) (by decide)]; rfl
    | 2 => show restF ⟨X, 2, 0, 0, 2⟩ = _; rw [rest_1 (by decide) (.inl rfl) (by decide)]; rfl
    | 3 => show restF ⟨X, 1, 0, 0, 2⟩ = _; rw [rest_1 (by decide) (.inl rfl) (by decide)]; rfl
    | k + 4 => rfl
  · rw [if_neg h, if_neg h]
    show restF ⟨y, 58 - k, 0, 0, 0⟩ = _
    rw [rest_1 (by omega) (.inl rfl) (by decide), if_neg (by omega)]
    simp only [show ¬ ((0 : Int) = 1) by decide, false_and, if_false]
    congr 2
    omega
theorem stt_len (X : Int) (k : Nat) (G : List Int) : (G.filterMap (stt X k)).length ≤ G.length := List.length_filterMap_le _ _
theorem stt_ids (X : Int) : ∀ (G : List Int), (G.filterMap (stt X 4)).map En.id = G.filter fun y => !decide (y = X)
  | [] => rfl
  | y :: G => by
    by_cases h : y = X
    · rw [List.filterMap_cons_none (by unfold stt; rw [if_pos h]; rfl), List.filter_cons_of_neg (by simp [h]), stt_ids X G]
    · rw [List.filterMap_cons_some (b := ⟨y, 54, 0, 0, 0⟩) (by unfold stt; rw [if_neg h]; rfl), List.filter_cons_of_pos (by simp [h]), List.map_cons, stt_ids X G]
theorem lev_fe : ∀ {G : List Int} {X : Int}, G.Pairwise (· < ·) → X ∈ G → (∃ k, (G.map fe)[k]? = some (fe X) ∧ pos (G.map fe) X = k ∧ (G.map fe).set k ⟨X, 4, 0, 1, 2⟩ = G.filterMap (stt X 0))
  | [], X, _, hx => by cases hx
  | y :: G, X, h, hx => by
    rw [List.pairwise_cons] at h
    have e2 : pos ((y :: G).map fe) X = if y < X then pos (G.map fe) X + 1 else 0 := rfl
    have rst : ∀ (G : List Int), (∀ z ∈ G, z ≠ X) → G.map fe = G.filterMap (stt X 0) := by
      intro G
      induction G with
      | nil => intro _; rfl
      | cons z G ih =>
        intro hz
        rw [List.map_cons, List.filterMap_cons_some (b := fe z) (by unfold stt; rw [if_neg (hz z (by simp))]; rfl), ih (fun w hw => hz w (by simp [hw]))]
    rcases List.mem_cons.1 hx with e | hx1
    · refine ⟨0, by rw [e]; rfl, by rw [e2, if_neg (by omega)], ?_⟩
      rw [List.map_cons, List.set_cons_zero, List.filterMap_cons_some (b := ⟨X, 4, 0, 1, 2⟩) (by unfold stt; rw [if_pos e.symm]; rfl), rst G (fun z hz => by have := h.1 z hz; omega)]
    · have hyX := h.1 X hx1
      obtain ⟨k, h1, h2, h3⟩ := lev_fe h.2 hx1
      refine ⟨k + 1, by rw [List.map_cons, List.getElem?_cons_succ]; exact h1, by rw [e2, if_pos hyX, h2], ?_⟩
      rw [List.map_cons, List.set_cons_succ, h3, List.filterMap_cons_some (b := fe y) (by unfold stt; rw [if_neg (by omega)]; rfl)]
theorem levB_fe {G : List Int} {X : Int} (h : G.Pairwise (· < ·)) (hx : X ∈ G) : levB (G.map fe) X true = true ∧ levL (G.map fe) X true = G.filterMap (stt X 0) := by
  obtain ⟨k, h1, h2, h3⟩ := lev_fe h hx
  have hb : levB (G.map fe) X true = true := by
    unfold levB
    rw [h2, h1]
    simp [fe]
  refine ⟨hb, ?_⟩
  unfold levL modE
  rw [hb, if_pos rfl, h2, h1]
  simp only
  rw [if_pos (by rfl)]
  exact h3
theorem filt_len : ∀ {G : List Int} {X : Int}, G.Pairwise (· < ·) → X ∈ G → ((G.filter fun y => !decide (y = X)).length : Int) = G.length - 1
  | [], X, _, hx => by cases hx
  | y :: G, X, h, hx => by
    rw [List.pairwise_cons] at h
    rcases List.mem_cons.1 hx with e | hx1
    · have : G.filter (fun z => !decide (z = X)) = G := List.filter_eq_self.2 (fun z hz => by have := h.1 z hz; simp; omega)
      rw [List.filter_cons_of_neg (by simp [e]), this]
      simp
    · have hyX := h.1 X hx1
      rw [List.filter_cons_of_pos (by simp; omega), List.length_cons, List.length_cons]
      have := filt_len h.2 hx1
      push_cast
      omega
theorem filt_has {G : List Int} {X y : Int} (hy : y ∈ G) : (G.filter fun z => !decide (z = X)).contains y = !decide (y = X) := by
  by_cases h : y = X
  · rw [decide_eq_true h]
    show _ = false
    rw [Bool.eq_false_iff]
    intro hc
    have := List.mem_filter.1 (List.contains_iff_mem.1 hc)
    simp [h] at this
  · rw [decide_eq_false h]
    exact List.contains_iff_mem.2 (List.mem_filter.2 ⟨hy, by simp [h]⟩)
end Go.Proofs.Ytojhnlbfaailcaa.Kt
