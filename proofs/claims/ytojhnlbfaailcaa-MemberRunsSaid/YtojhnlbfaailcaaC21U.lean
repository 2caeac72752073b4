/- Part of the proofs of this seat's statements: what the functions compute. No condition. -/
import Derived.Test.YtojhnlbfaailcaaC21T
set_option linter.unusedSimpArgs false
set_option linter.unusedVariables false
namespace Go.Proofs.Ytojhnlbfaailcaa.Kt
open Go Kw Go.Proofs
attribute [local irreducible] Kw.GI Kw.GR Kw.FnR Kw.FnX
set_option maxHeartbeats 4000000
set_option maxRecDepth 100000
theorem same_Ints (l : List Int) (hl : l.length < 1000000000) : FnR Try.prog 22 [.r (.rs 1 (l.map rI)), .r (.rs 1 (l.map rI))] (RB true) := by
  refine fnR_intro (T := TT) (n := 26) Try.func22 rfl rfl rfl (fun w Z => ?_)
  (repeat (first | (refine r_end ?_) | (refine r_op ?_; first | refine r_pure hT rfl rfl rfl rfl rfl rfl ?_ | refine r_load hT rfl rfl rfl rfl rfl rfl rfl rfl rfl ?_ | refine r_box rfl rfl rfl rfl rfl rfl rfl rfl rfl ?_ | refine r_store hT rfl rfl rfl rfl rfl rfl rfl rfl rfl rfl ?_ | refine r_off rfl rfl rfl rfl rfl ?_ | refine r_alloc hT rfl rfl rfl rfl rfl rfl rfl rfl rfl ?_ | refine r_lit hT rfl rfl rfl rfl rfl rfl rfl rfl rfl rfl rfl rfl rfl ?_ | refine r_off0 rfl rfl rfl rfl ?_) | (refine gi_seq ?_) | (refine gi_plain ?_) | (refine gi_skip ?_) | (refine gi_block ?_) | (refine gi_inBlock ?_) | (refine gi_exit rfl ?_) | (refine gi_cnd ?_; first | refine gi_true rfl ?_ | refine gi_false rfl ?_) | (refine gi_label ?_)))
  refine gi_known (d := 10) (b := false) rfl (by rw [notB_eq, eqB_eq]; simp) ?_
  (repeat (first | (refine r_end ?_) | (refine r_op ?_; first | refine r_pure hT rfl rfl rfl rfl rfl rfl ?_ | refine r_load hT rfl rfl rfl rfl rfl rfl rfl rfl rfl ?_ | refine r_box rfl rfl rfl rfl rfl rfl rfl rfl rfl ?_ | refine r_store hT rfl rfl rfl rfl rfl rfl rfl rfl rfl rfl ?_ | refine r_off rfl rfl rfl rfl rfl ?_ | refine r_alloc hT rfl rfl rfl rfl rfl rfl rfl rfl rfl ?_ | refine r_lit hT rfl rfl rfl rfl rfl rfl rfl rfl rfl rfl rfl rfl rfl ?_ | refine r_off0 rfl rfl rfl rfl ?_) | (refine gi_seq ?_) | (refine gi_plain ?_) | (refine gi_skip ?_) | (refine gi_block ?_) | (refine gi_inBlock ?_) | (refine gi_exit rfl ?_) | (refine gi_cnd ?_; first | refine gi_true rfl ?_ | refine gi_false rfl ?_) | (refine gi_label ?_)))
  refine gi_loop (σ := Nat) (fun s => [(5, I s), (0, .r (.rs 1 (l.map rI))), (1, .r (.rs 1 (l.map rI))), (4, Bo false)]) (fun _ => []) (fun _ => []) (fun s => s ≤ l.length) (fun s => l.length - s) 0 (Nat.zero_le _) ⟨rfl, rfl, rfl, rfl, trivial⟩ trivial trivial (fun _ => rfl) (fun s hs next => ?_)
  (repeat (first | (refine r_end ?_) | (refine r_op ?_; first | refine r_pure hT rfl rfl rfl rfl rfl rfl ?_ | refine r_load hT rfl rfl rfl rfl rfl rfl rfl rfl rfl ?_ | refine r_box rfl rfl rfl rfl rfl rfl rfl rfl rfl ?_ | refine r_store hT rfl rfl rfl rfl rfl rfl rfl rfl rfl rfl ?_ | refine r_off rfl rfl rfl rfl rfl ?_ | refine r_alloc hT rfl rfl rfl rfl rfl rfl rfl rfl rfl ?_ | refine r_lit hT rfl rfl rfl rfl rfl rfl rfl rfl rfl rfl rfl rfl rfl ?_ | refine r_off0 rfl rfl rfl rfl ?_) | (refine gi_seq ?_) | (refine gi_plain ?_) | (refine gi_skip ?_) | (refine gi_block ?_) | (refine gi_inBlock ?_) | (refine gi_exit rfl ?_) | (refine gi_cnd ?_; first | refine gi_true rfl ?_ | refine gi_false rfl ?_) | (refine gi_label ?_)))
  refine gi_lt (q := ((l.map rI).length : Int)) rfl (fun h3 => ?_) (fun h3 => ?_)
  · rw [List.length_map] at h3
    have hlt : s < l.length := by omega
    obtain ⟨x, hx⟩ : ∃ x, l[s]? = some x := ⟨_, List.getElem?_eq_getElem hlt⟩
    (repeat (first | (refine r_end ?_) | (refine r_op ?_; first | refine r_pure hT rfl rfl rfl rfl rfl rfl ?_ | refine r_load hT rfl rfl rfl rfl rfl rfl rfl rfl rfl ?_ | refine r_box rfl rfl rfl rfl rfl rfl rfl rfl rfl ?_ | refine r_store hT rfl rfl rfl rfl rfl rfl rfl rfl rfl rfl ?_ | refine r_off rfl rfl rfl rfl rfl ?_ | refine r_alloc hT rfl rfl rfl rfl rfl rfl rfl rfl rfl ?_ | refine r_lit hT rfl rfl rfl rfl rfl rfl rfl rfl rfl rfl rfl rfl rfl ?_ | refine r_off0 rfl rfl rfl rfl ?_) | (refine gi_seq ?_) | (refine gi_plain ?_) | (refine gi_skip ?_) | (refine gi_block ?_) | (refine gi_inBlock ?_) | (refine gi_exit rfl ?_) | (refine gi_cnd ?_; first | refine gi_true rfl ?_ | refine gi_false rfl ?_) | (refine gi_label ?_)))
    refine gi_draw [] [(0, .p), (1, .p), (2, .p), (4, .p), (5, .p), (6, .p), (3, .t), (7, .t), (8, .p)] hm rfl (by kernel_rfl) (fun w1 K => ?_)
    (repeat (first | (refine r_end ?_) | (refine r_op ?_; first | refine r_pure hT rfl rfl rfl rfl rfl rfl ?_ | refine r_load hT rfl rfl rfl rfl rfl rfl rfl rfl rfl ?_ | refine r_box rfl rfl rfl rfl rfl rfl rfl rfl rfl ?_ | refine r_store hT rfl rfl rfl rfl rfl rfl rfl rfl rfl rfl ?_ | refine r_off rfl rfl rfl rfl rfl ?_ | refine r_alloc hT rfl rfl rfl rfl rfl rfl rfl rfl rfl ?_ | refine r_lit hT rfl rfl rfl rfl rfl rfl rfl rfl rfl rfl rfl rfl rfl ?_ | refine r_off0 rfl rfl rfl rfl ?_) | (refine gi_seq ?_) | (refine gi_plain ?_) | (refine gi_skip ?_) | (refine gi_block ?_) | (refine gi_inBlock ?_) | (refine gi_exit rfl ?_) | (refine gi_cnd ?_; first | refine gi_true rfl ?_ | refine gi_false rfl ?_) | (refine gi_label ?_)))
    refine r_idx (row := rI x) hT rfl rfl rfl rfl rfl rfl rfl rfl rfl rfl rfl rfl (by omega) (by show (List.map rI l)[((s : Nat) : Int).toNat]? = _; rw [Int.toNat_natCast, List.getElem?_map, hx]; rfl) ?_
    (repeat (first | (refine r_end ?_) | (refine r_op ?_; first | refine r_pure hT rfl rfl rfl rfl rfl rfl ?_ | refine r_load hT rfl rfl rfl rfl rfl rfl rfl rfl rfl ?_ | refine r_box rfl rfl rfl rfl rfl rfl rfl rfl rfl ?_ | refine r_store hT rfl rfl rfl rfl rfl rfl rfl rfl rfl rfl ?_ | refine r_off rfl rfl rfl rfl rfl ?_ | refine r_alloc hT rfl rfl rfl rfl rfl rfl rfl rfl rfl ?_ | refine r_lit hT rfl rfl rfl rfl rfl rfl rfl rfl rfl rfl rfl rfl rfl ?_ | refine r_off0 rfl rfl rfl rfl ?_) | (refine gi_seq ?_) | (refine gi_plain ?_) | (refine gi_skip ?_) | (refine gi_block ?_) | (refine gi_inBlock ?_) | (refine gi_exit rfl ?_) | (refine gi_cnd ?_; first | refine gi_true rfl ?_ | refine gi_false rfl ?_) | (refine gi_label ?_)))
    refine r_idx (row := rI x) hT rfl rfl rfl rfl rfl rfl rfl rfl rfl rfl rfl rfl (by omega) (by show (List.map rI l)[((s : Nat) : Int).toNat]? = _; rw [Int.toNat_natCast, List.getElem?_map, hx]; rfl) ?_
    (repeat (first | (refine r_end ?_) | (refine r_op ?_; first | refine r_pure hT rfl rfl rfl rfl rfl rfl ?_ | refine r_load hT rfl rfl rfl rfl rfl rfl rfl rfl rfl ?_ | refine r_box rfl rfl rfl rfl rfl rfl rfl rfl rfl ?_ | refine r_store hT rfl rfl rfl rfl rfl rfl rfl rfl rfl rfl ?_ | refine r_off rfl rfl rfl rfl rfl ?_ | refine r_alloc hT rfl rfl rfl rfl rfl rfl rfl rfl rfl ?_ | refine r_lit hT rfl rfl rfl rfl rfl rfl rfl rfl rfl rfl rfl rfl rfl ?_ | refine r_off0 rfl rfl rfl rfl ?_) | (refine gi_seq ?_) | (refine gi_plain ?_) | (refine gi_skip ?_) | (refine gi_block ?_) | (refine gi_inBlock ?_) | (refine gi_exit rfl ?_) | (refine gi_cnd ?_; first | refine gi_true rfl ?_ | refine gi_false rfl ?_) | (refine gi_label ?_)))
    refine gi_known (d := 25) (b := false) rfl (by rw [notB_eq]; simp only [eqB_same]; rfl) ?_
    (repeat (first | (refine r_end ?_) | (refine r_op ?_; first | refine r_pure hT rfl rfl rfl rfl rfl rfl ?_ | refine r_load hT rfl rfl rfl rfl rfl rfl rfl rfl rfl ?_ | refine r_box rfl rfl rfl rfl rfl rfl rfl rfl rfl ?_ | refine r_store hT rfl rfl rfl rfl rfl rfl rfl rfl rfl rfl ?_ | refine r_off rfl rfl rfl rfl rfl ?_ | refine r_alloc hT rfl rfl rfl rfl rfl rfl rfl rfl rfl ?_ | refine r_lit hT rfl rfl rfl rfl rfl rfl rfl rfl rfl rfl rfl rfl rfl ?_ | refine r_off0 rfl rfl rfl rfl ?_) | (refine gi_seq ?_) | (refine gi_plain ?_) | (refine gi_skip ?_) | (refine gi_block ?_) | (refine gi_inBlock ?_) | (refine gi_exit rfl ?_) | (refine gi_cnd ?_; first | refine gi_true rfl ?_ | refine gi_false rfl ?_) | (refine gi_label ?_)))
    refine next (s + 1) _ _ _ hlt (by omega) ⟨?_, rfl, rfl, rfl, trivial⟩ trivial trivial
    show some (I (wr .i64 ((s : Int) + 1))) = _
    rw [wr_i64 (by omega) (by omega)]
    simp
  · (repeat (first | (refine r_end ?_) | (refine r_op ?_; first | refine r_pure hT rfl rfl rfl rfl rfl rfl ?_ | refine r_load hT rfl rfl rfl rfl rfl rfl rfl rfl rfl ?_ | refine r_box rfl rfl rfl rfl rfl rfl rfl rfl rfl ?_ | refine r_store hT rfl rfl rfl rfl rfl rfl rfl rfl rfl rfl ?_ | refine r_off rfl rfl rfl rfl rfl ?_ | refine r_alloc hT rfl rfl rfl rfl rfl rfl rfl rfl rfl ?_ | refine r_lit hT rfl rfl rfl rfl rfl rfl rfl rfl rfl rfl rfl rfl rfl ?_ | refine r_off0 rfl rfl rfl rfl ?_) | (refine gi_seq ?_) | (refine gi_plain ?_) | (refine gi_skip ?_) | (refine gi_block ?_) | (refine gi_inBlock ?_) | (refine gi_exit rfl ?_) | (refine gi_cnd ?_; first | refine gi_true rfl ?_ | refine gi_false rfl ?_) | (refine gi_label ?_)))
    refine gi_retW hT Try.func22 rfl rfl [] rfl rfl rfl rfl ?_
    exact ⟨rfl, rfl⟩

structure Iv (l : List En) (n : Nat) : Prop where
  srt : Srt l
  ok : ∀ x ∈ l, Ok x
  len : l.length ≤ n
theorem Iv.nil : Iv [] 0 := ⟨.nil, fun x h => by (cases h), Nat.le_refl _⟩
theorem Iv.up {l : List En} {n : Nat} (h : Iv l n) : Iv l (n + 1) := ⟨h.srt, h.ok, by have := h.len; omega⟩
theorem c0 : (0 : Int) ≤ 0 ∧ (0 : Int) ≤ 58 := by decide
theorem c1 : (0 : Int) ≤ 0 ∧ (0 : Int) ≤ 2 := by decide
theorem c2 : (1 : Int) ≤ 58 ∧ (58 : Int) ≤ 58 := by decide
theorem c3 : (0 : Int) ≤ 58 ∧ (58 : Int) ≤ 58 := by decide
theorem c4 : (1 : Int) ≤ 4 ∧ (4 : Int) ≤ 58 := by decide
theorem c5 : (0 : Int) ≤ 2 ∧ (2 : Int) ≤ 2 := by decide
theorem c6 : (1 : Int) ≤ 2 := by decide
theorem ok_rep {x : En} (h : 0 ≤ x.old ∧ x.old ≤ 58) (h2 : 0 ≤ x.next ∧ x.next ≤ 2) (o : Bool) : Ok (repE x o) := by
  unfold Ok repE
  refine ⟨c2, ?_, .inl rfl, h2, fun e => by cases e⟩
  cases o
  · exact h
  · exact c3
theorem rep_Ok : ∀ (l : List En) (g : Int) (o : Bool), (∀ x ∈ l, Ok x) → ∀ x ∈ rep l g o, Ok x
  | [], g, o, _, x, hx => by
    unfold rep at hx
    rw [List.mem_singleton.1 hx]
    exact ok_rep c0 c1 o
  | y :: l, g, o, h, x, hx => by
    have hy := h y (by simp)
    unfold rep at hx
    split at hx
    · rcases List.mem_cons.1 hx with rfl | hx
      · exact hy
      · exact rep_Ok l g o (fun z hz => h z (by simp [hz])) x hx
    · split at hx
      · rcases List.mem_cons.1 hx with rfl | hx
        · exact ok_rep hy.2.1 hy.2.2.2.1 o
        · exact h x (by simp [hx])
      · rcases List.mem_cons.1 hx with rfl | hx
        · exact ok_rep c0 c1 o
        · exact h x hx
theorem Iv.rep {l : List En} {n : Nat} (h : Iv l n) (g : Int) (o : Bool) : Iv (rep l g o) (n + 1) :=
  ⟨rep_srt l g o h.srt, rep_Ok l g o h.ok, by have := rep_len l g o; have := h.len; omega⟩
theorem set_srt {l : List En} {k : Nat} {x y : En} (hs : Srt l) (hx : l[k]? = some x) (hy : y.id = x.id) : Srt (l.set k y) := by
  unfold Srt at *
  rw [List.pairwise_iff_getElem] at *
  intro i j hi hj hij
  rw [List.length_set] at hi hj
  have hk := (List.getElem?_eq_some_iff.1 hx).2
  have := hs i j hi hj hij
  rw [List.getElem_set, List.getElem_set]
  split
  · rename_i e1
    subst e1
    rw [if_neg (by omega), hy, ← hk]
    exact this
  · split
    · rename_i e2
      subst e2
      rw [hy, ← hk]
      exact this
    · exact this
theorem Iv.mod {l : List En} {n : Nat} (h : Iv l n) (g : Int) (f : En → En) (hf : ∀ x, (f x).id = x.id) (hok : ∀ x, Ok x → Ok (f x)) : Iv (modE l g f) n := by
  unfold modE
  split
  · rename_i x hx
    split
    · refine ⟨set_srt h.srt hx (hf x), fun z hz => ?_, by rw [List.length_set]; exact h.len⟩
      rcases List.mem_or_eq_of_mem_set hz with hz | rfl
      · exact h.ok z hz
      · exact hok x (h.ok x (List.mem_of_getElem? hx))
    · exact h
  · exact h
theorem Iv.hrd {l : List En} {n : Nat} (h : Iv l n) (g t : Int) (a : Bool) : Iv (hrdL l g t a) n := by
  unfold hrdL
  split
  · exact h
  · refine h.mod g hrdE (fun x => rfl) (fun x hx => ?_)
    obtain ⟨h1, h2⟩ := hx
    refine ⟨?_, h2⟩
    show 1 ≤ mm false x.left 4 ∧ mm false x.left 4 ≤ 58
    unfold mm
    simp only
    split <;> omega
theorem Iv.lev {l : List En} {n : Nat} (h : Iv l n) (g : Int) (a : Bool) : Iv (levL l g a) n := by
  unfold levL
  split
  · refine h.mod g levE (fun x => rfl) (fun x hx => ?_)
    obtain ⟨h1, h2, _⟩ := hx
    exact ⟨c4, h2, .inr rfl, c5, fun _ => c6⟩
  · exact h
theorem restF_some {x y : En} (h : restF x = some y) : ¬ dead x ∧ y = tkE x := by
  unfold restF at h
  split at h
  · cases h
  · rename_i hd
    exact ⟨hd, by simpa using h.symm⟩
theorem tk_Ok {x : En} (h : Ok x) (hd : ¬ dead x) : Ok (tkE x) := by
  obtain ⟨h1, h2, h3, h4, h5⟩ := h
  unfold dead at hd
  rw [wr_i64 (by omega) (by omega)] at hd
  unfold tkE Ok
  simp only
  rw [mm_old h2, wr_i64 (n := x.left - 1) (by omega) (by omega), wr_i64 (n := x.next - 1) (by omega) (by omega), wr_i64 (n := x.asked - 1) (by omega) (by omega), wr_i64 (n := x.old - 1) (by omega) (by omega)]
  have hdu : due x = decide (x.asked = 1 ∧ x.next = 1) := by
    unfold due
    rw [wr_i64 (by omega) (by omega), ← Bool.decide_and]
    exact decide_eq_decide.2 (by omega)
  rw [hdu]
  refine ⟨by omega, by split <;> omega, ?_, ?_, ?_⟩
  · by_cases hc : x.asked = 1 ∧ x.next = 1
    · rw [decide_eq_true hc]; simp only [if_true]; omega
    · rw [decide_eq_false hc]; simp only [Bool.false_eq_true, if_false]; exact h3
  · by_cases hc : x.asked = 1 ∧ x.next = 1
    · rw [decide_eq_true hc]; simp only [if_true]; decide
    · rw [decide_eq_false hc]; simp only [Bool.false_eq_true, if_false]; split <;> omega
  · by_cases hc : x.asked = 1 ∧ x.next = 1
    · rw [decide_eq_true hc]; simp only [if_true]; intro _; decide
    · rw [decide_eq_false hc]; simp only [Bool.false_eq_true, if_false]
      intro ha
      rw [if_pos (by omega)]
      omega
theorem Iv.tick {l : List En} {n : Nat} (h : Iv l n) : Iv (l.filterMap restF) n := by
  refine ⟨?_, fun y hy => ?_, by have := List.length_filterMap_le restF l; have := h.len; omega⟩
  · have h1 := h.srt
    unfold Srt at *
    rw [List.pairwise_filterMap]
    refine h1.imp (fun {a b} hab y hy z hz => ?_)
    rw [(restF_some hy).2, (restF_some hz).2]
    exact hab
  · obtain ⟨x, hx, hxy⟩ := List.mem_filterMap.1 hy
    obtain ⟨hd, rfl⟩ := restF_some hxy
    exact tk_Ok (h.ok x hx) hd
structure Ac where
  act : Int
  group : Int
  time : Int
  old : Bool
  asks : Bool
abbrev Ac.row (c : Ac) : List RV := [.v (.int .i64 c.act), .v (.int .i64 c.group), .v (.int .i64 c.time), .v (.bool c.old), .v (.bool c.asks)]
abbrev Ac.cells (c : Ac) : List AV := [I c.act, I c.group, I c.time, Bo c.old, Bo c.asks]
abbrev rsA (l : List Ac) : AV := .r (.rs 5 (l.map Ac.row))
end Go.Proofs.Ytojhnlbfaailcaa.Kt
