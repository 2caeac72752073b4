/- Part of the proofs of this seat's statements: what the functions compute. No condition. -/
import Derived.Test.YtmocggibcniggaaC18W
set_option linter.unusedSimpArgs false
set_option linter.unusedVariables false
namespace Go.Proofs.Ytmocggibcniggaa.Kt
open Go Kw Go.Proofs
attribute [local irreducible] Kw.GI Kw.GR Kw.FnR Kw.FnX
set_option maxHeartbeats 4000000
set_option maxRecDepth 100000
theorem Has_ok (l : List Int) (n : Int) (hl : l.length < 1000000) : FnR Try.prog 57 [rsN l, I n] (RB (l.contains n)) := by
  refine fnR_intro (T := TT) (n := 18) Try.func57 rfl rfl rfl (fun w Z => ?_)
  (repeat (first | refine r_end ?_ | (refine r_op ?_; refine r_pure hT rfl rfl rfl rfl rfl rfl ?_) | refine gi_seq ?_ | refine gi_plain ?_ | refine gi_block ?_))
  refine gi_loop (σ := Nat) (fun j => [(5, I j), (0, rsN l), (1, I n)]) (fun _ => []) (fun _ => []) (fun j => j ≤ l.length ∧ ∀ i, i < j → l[i]? ≠ some n) (fun j => l.length - j) 0 ⟨Nat.zero_le _, fun i h => absurd h (Nat.not_lt_zero _)⟩ ⟨rfl, rfl, rfl, trivial⟩ trivial trivial (fun _ => rfl) (fun j hj next => ?_)
  obtain ⟨h1, h2⟩ := hj
  (repeat (first | refine r_end ?_ | (refine r_op ?_; refine r_pure hT rfl rfl rfl rfl rfl rfl ?_) | refine gi_seq ?_ | refine gi_plain ?_))
  refine gi_lt (q := ((l.map nRow).length : Int)) rfl (fun h3 => ?_) (fun h3 => ?_)
  · rw [List.length_map] at h3
    have h3' : j < l.length := by omega
    obtain ⟨x, hx⟩ : ∃ x, l[j]? = some x := ⟨_, List.getElem?_eq_getElem h3'⟩
    (repeat (first | (refine r_op ?_; refine r_pure hT rfl rfl rfl rfl rfl rfl ?_) | refine gi_seq ?_ | refine gi_plain ?_ | refine gi_skip ?_ | refine gi_block ?_))
    refine r_idx (row := nRow x) hT rfl rfl rfl rfl rfl rfl rfl rfl rfl rfl rfl rfl (by omega) (by simp [hx]) ?_
    (repeat (first | refine r_end ?_ | (refine r_op ?_; first | refine r_pure hT rfl rfl rfl rfl rfl rfl ?_ | refine r_load hT rfl rfl rfl rfl rfl rfl rfl rfl rfl ?_)))
    refine gi_eq rfl (fun h4 => ?_) (fun h4 => ?_)
    · (repeat (first | refine r_end ?_ | (refine r_op ?_; refine r_pure hT rfl rfl rfl rfl rfl rfl ?_) | refine gi_seq ?_ | refine gi_plain ?_))
      refine gi_retW hT Try.func57 rfl rfl [] rfl rfl rfl rfl ?_
      subst h4
      refine ⟨?_, rfl⟩
      rw [List.contains_iff_mem.2 (List.mem_of_getElem? hx)]
    · (repeat (first | refine r_end ?_ | (refine r_op ?_; refine r_pure hT rfl rfl rfl rfl rfl rfl ?_) | refine gi_plain ?_ | refine gi_skip ?_ | refine gi_inBlock ?_))
      refine next (j + 1) _ _ _ ⟨h3', fun i hi => ?_⟩ (by omega) ⟨?_, rfl, rfl, trivial⟩ trivial trivial
      · rcases Nat.lt_succ_iff_lt_or_eq.1 hi with hi | rfl
        · exact h2 i hi
        · rw [hx]; intro e; exact h4 (Option.some.inj e)
      · show some (I (wr .i64 ((j : Int) + 1))) = _
        rw [wr_i64 (by omega) (by omega)]
        simp
  · rw [List.length_map] at h3
    (repeat (first | refine r_end ?_ | (refine r_op ?_; refine r_pure hT rfl rfl rfl rfl rfl rfl ?_) | refine gi_seq ?_ | refine gi_plain ?_ | refine gi_exit rfl ?_))
    refine gi_retW hT Try.func57 rfl rfl [] rfl rfl rfl rfl ?_
    refine ⟨?_, rfl⟩
    have : l.contains n = false := by
      rw [← Bool.not_eq_true, List.contains_iff_mem]
      intro hm
      obtain ⟨i, hi⟩ := List.mem_iff_getElem?.1 hm
      exact h2 i (by have := (List.getElem?_eq_some_iff.1 hi).1; omega) hi
    rw [this]
def vlt (a b : Vt) : Bool := decide (a.k < b.k) || (decide (a.k = b.k) && decide (a.i < b.i))
def insV : List Vt → Vt → List Vt
  | [], v => [v]
  | x :: l, v => if vlt x v then x :: insV l v else if x = v then x :: l else v :: x :: l
theorem insV_at {v : Vt} : ∀ {l : List Vt} {a : Nat}, a ≤ l.length → (∀ t, t < a → ∀ x, l[t]? = some x → vlt x v = true) → (∀ x, l[a]? = some x → vlt x v = false) → insV l v = if l[a]? = some v then l else l.take a ++ v :: l.drop a
  | [], a, h, _, _ => by
    have : a = 0 := by simpa using h
    subst this; rfl
  | x :: l, 0, _, _, h2 => by
    have := h2 x rfl
    unfold insV
    rw [this]
    simp
  | x :: l, a + 1, h, h1, h2 => by
    have hx := h1 0 (by omega) x rfl
    have ih := insV_at (v := v) (l := l) (a := a) (by simpa using h) (fun t ht y hy => h1 (t + 1) (by omega) y (by simpa using hy)) (fun y hy => h2 y (by simpa using hy))
    unfold insV
    rw [if_pos hx, ih]
    simp only [List.getElem?_cons_succ, List.take_succ_cons, List.drop_succ_cons, List.cons_append]
    split <;> rfl
theorem insV_len {v : Vt} : ∀ (l : List Vt), (insV l v).length ≤ l.length + 1
  | [] => by simp [insV]
  | x :: l => by
    unfold insV
    have := insV_len (v := v) l
    split
    · simp; omega
    · split <;> simp
abbrev eVr (L : List (List RV)) : Option SE := some ⟨34, 2, L, false⟩
abbrev RV1 (X : Option SE) : AV → Hp → Sp → Prop := fun r H S => r = .sl 0 ∧ H = [] ∧ S = [X]
theorem stLL_V : ∀ (l : List Vt), stLL (l.map Vt.row) = true
  | [] => rfl
  | c :: l => by
    show (stL (Vt.row c) && stLL (l.map Vt.row)) = true
    rw [stLL_V l]; rfl
theorem pV1 {l : List Vt} : ∀ r H1 S1, RV1 (eV l) r H1 S1 → stA r = true ∧ StH H1 ∧ StS S1 := by
  rintro r H S ⟨rfl, rfl, rfl⟩
  refine ⟨rfl, StH.nil, fun e he s hs => ?_⟩
  rw [List.mem_singleton.1 he] at hs
  cases hs
  exact stLL_V l
/-! shifting a list up by one -/
abbrev zV : List RV := [.v (.int .i64 0), .v (.int .i64 0)]
theorem sh0 {α : Type} (R : List α) (z : α) : (R ++ [z]).take (R.length + 1) ++ R.drop R.length = R ++ [z] := by rw [List.take_of_length_le (by simp)]; simp
theorem sh_get1 {α : Type} {R : List α} {z : α} {k : Nat} (hk : k < R.length) : ((R ++ [z]).take (k + 1 + 1) ++ R.drop (k + 1))[k]? = R[k]? := by
  rw [List.getElem?_append_left (by simp; omega), List.getElem?_take, if_pos (by omega), List.getElem?_append_left hk]
theorem take_snoc {α : Type} {l : List α} {j : Nat} {x : α} (h : l[j]? = some x) : l.take (j + 1) = l.take j ++ [x] := by rw [List.take_add_one, h]; rfl
theorem sh_step {α : Type} {R : List α} {z y : α} {k : Nat} (hy : R[k]? = some y) : ((R ++ [z]).take (k + 1 + 1) ++ R.drop (k + 1)).set (k + 1) y = (R ++ [z]).take (k + 1) ++ R.drop k := by
  have hk := (List.getElem?_eq_some_iff.1 hy).1
  have hd : R.drop k = y :: R.drop (k + 1) := by
    rw [List.drop_eq_getElem_cons hk, (List.getElem?_eq_some_iff.1 hy).2]
  rw [List.set_append_left _ _ (by simp; omega), hd]
  obtain ⟨w, hw⟩ : ∃ w, (R ++ [z])[k + 1]? = some w := ⟨_, List.getElem?_eq_getElem (by simp; omega)⟩
  rw [take_snoc hw, List.set_append_right _ _ (by simp; omega)]
  simp only [List.length_take, List.length_append, List.length_singleton]
  rw [show k + 1 - min (k + 1) (R.length + 1) = 0 by omega]
  simp
theorem sh_end {α : Type} {R : List α} {z y : α} {a : Nat} (ha : a ≤ R.length) : ((R ++ [z]).take (a + 1) ++ R.drop a).set a y = R.take a ++ y :: R.drop a := by
  obtain ⟨w, hw⟩ : ∃ w, (R ++ [z])[a]? = some w := ⟨_, List.getElem?_eq_getElem (by simp; omega)⟩
  rw [take_snoc hw, List.append_assoc, List.set_append_right _ _ (by simp; omega)]
  rw [List.length_take, List.length_append, List.length_singleton, show a - min a (R.length + 1) = 0 by omega, List.take_append_of_le_length ha]
  rfl
theorem sh_row (o : List Vt) (k : Nat) (hk : k ≤ o.length) : ∃ r0, ((o.map Vt.row ++ [zV]).take (k + 1) ++ (o.map Vt.row).drop k)[k]? = some r0 ∧ ∀ y : Vt, setR r0 0 y.row = y.row := by
  rw [List.getElem?_append_left (by simp; omega), List.getElem?_take, if_pos (by omega)]
  by_cases h : k < o.length
  · obtain ⟨y, hy⟩ : ∃ y, o[k]? = some y := ⟨_, List.getElem?_eq_getElem h⟩
    exact ⟨y.row, by rw [List.getElem?_append_left (by simpa using h), List.getElem?_map, hy]; rfl, fun _ => rfl⟩
  · have : k = o.length := by omega
    subst this
    exact ⟨zV, by rw [List.getElem?_append_right (by simp)]; simp, fun _ => rfl⟩
end Go.Proofs.Ytmocggibcniggaa.Kt
