/- Part of the proofs of this seat's statements: what the functions compute. No condition. -/
import Derived.Test.YtpkkaadflbppcaaC25P
import Derived.Test.YtpkkaadflbppcaaC25J
set_option linter.unusedSimpArgs false
set_option linter.unusedVariables false
namespace Go.Proofs.Ytpkkaadflbppcaa.Kt
open Go Kw Go.Proofs
attribute [local irreducible] Kw.GI Kw.GR Kw.FnR Kw.FnX
set_option maxHeartbeats 4000000
set_option maxRecDepth 100000
abbrev ce (i : Nat) : En := ⟨i, 0, 5, 0, [⟨1, i⟩]⟩
def cl (k : Nat) : List En := (List.range k).map ce
theorem cl_len (k : Nat) : (cl k).length = k := by unfold cl; simp
theorem cl_get {k i : Nat} (h : i < k) : (cl k)[i]? = some (ce i) := by unfold cl; simp [h]
theorem cl_succ (k : Nat) : cl (k + 1) = cl k ++ [ce k] := by unfold cl; rw [List.range_succ, List.map_append]; rfl
theorem ixN_none_of {p b g : Int} : ∀ {l : List En}, (∀ e ∈ l, mt p b g e = false) → ixN p b g l = none
  | [], _ => rfl
  | e :: l, h => by
    unfold ixN
    rw [h e (by simp), ixN_none_of (fun e' he => h e' (by simp [he]))]
    rfl
theorem ixN_at {p b g : Int} {l : List En} {i : Nat} {e : En} (h : ∀ j, j < i → ∀ e', l[j]? = some e' → mt p b g e' = false) (he : l[i]? = some e) (hm : mt p b g e = true) : ixN p b g l = some i := by
  have hi := (List.getElem?_eq_some_iff.1 he).1
  rw [ixN_drop h (by omega), List.drop_eq_getElem_cons hi, (List.getElem?_eq_some_iff.1 he).2]
  unfold ixN
  rw [hm]
  simp
theorem mt_ce (i j : Nat) : mt i 0 5 (ce j) = decide (j = i) := by
  unfold mt
  show (decide ((j : Int) = i) && decide ((0 : Int) = 0) && decide ((5 : Int) = 5)) = _
  rw [decide_eq_true rfl, decide_eq_true rfl, Bool.and_true, Bool.and_true]
  exact decide_eq_decide.2 (by omega)
theorem cl_none (k : Nat) : ixN k 0 5 (cl k) = none := ixN_none_of (fun e he => by
  unfold cl at he
  obtain ⟨j, hj, rfl⟩ := List.mem_map.1 he
  rw [mt_ce]
  have := List.mem_range.1 hj
  exact decide_eq_false (by omega))
theorem cl_at {k i : Nat} (h : i < k) : ixN i 0 5 (cl k) = some i := ixN_at (fun j hj e he => by
  rw [cl_get (by omega)] at he
  cases he
  rw [mt_ce]; exact decide_eq_false (by omega)) (cl_get h) (by rw [mt_ce]; exact decide_eq_true rfl)
theorem cl_new {k : Nat} (h : k < 20) : newL 20 (cl k) (ce k) = cl (k + 1) := by
  unfold newL
  rw [cl_len, if_neg (by omega), cl_succ]
theorem use_at {k i : Nat} (h : i < k) : ixN i 0 5 (useL (cl k) i (ce i)) = some (k - 1) ∧ (useL (cl k) i (ce i))[k - 1]? = some (ce i) := by
  have hl : ((cl k).eraseIdx i).length = k - 1 := by rw [List.length_eraseIdx_of_lt (by rw [cl_len]; exact h), cl_len]
  have h2 : (useL (cl k) i (ce i))[k - 1]? = some (ce i) := by
    have := useL_last (cl k) i (ce i) (by rw [cl_len]; exact h)
    rwa [cl_len] at this
  refine ⟨ixN_at (fun j hj e he => ?_) h2 (by rw [mt_ce]; exact decide_eq_true rfl), h2⟩
  unfold useL at he
  rw [List.getElem?_append_left (by omega), List.getElem?_eraseIdx] at he
  split at he
  · rw [cl_get (by omega)] at he; cases he
    rw [mt_ce]; exact decide_eq_false (by omega)
  · rw [cl_get (by omega)] at he; cases he
    rw [mt_ce]; exact decide_eq_false (by omega)
/-- A sorted list of entries that have other keys is told by what is in it. -/
theorem sorted_eq {l l' : List En} (h1 : l'.Perm l) (h2 : Srt l') (h3 : Srt l) (h4 : ∀ a ∈ l, ∀ b ∈ l, a.g = b.g → a.p = b.p → a.b = b.b → a = b) : l' = l := by
  have pw : ∀ {l : List En}, Srt l → l.Pairwise fun a b => ¬ b.lt a := fun {l} h => by
    rw [List.pairwise_iff_getElem]
    intro i j hi hj hij
    exact h i j _ _ hij (List.getElem?_eq_getElem hi) (List.getElem?_eq_getElem hj)
  refine h1.eq_of_pairwise (le := fun a b => ¬ b.lt a) (fun a b ha hb hab hba => ?_) (pw h2) (pw h3)
  have ha' := h1.mem_iff.1 ha
  unfold En.lt klt at hab hba
  exact h4 a ha' b (by first | exact hb | exact h1.mem_iff.1 hb) (by omega) (by omega) (by omega)
theorem cl_srt (k : Nat) : Srt (cl k) := fun i j a b hij ha hb => by
  have hi := (List.getElem?_eq_some_iff.1 ha).1
  have hj := (List.getElem?_eq_some_iff.1 hb).1
  rw [cl_len] at hi hj
  rw [cl_get hi] at ha
  rw [cl_get hj] at hb
  cases ha
  cases hb
  unfold En.lt klt
  show ¬ ((5 : Int) < 5 ∨ ((5 : Int) = 5 ∧ ((j : Int) < i ∨ ((j : Int) = i ∧ (0 : Int) < 0))))
  omega
theorem cl_inj (k : Nat) : ∀ a ∈ cl k, ∀ b ∈ cl k, a.g = b.g → a.p = b.p → a.b = b.b → a = b := fun a ha b hb _ h _ => by
  unfold cl at ha hb
  obtain ⟨i, _, rfl⟩ := List.mem_map.1 ha
  obtain ⟨j, _, rfl⟩ := List.mem_map.1 hb
  have h : (i : Int) = j := h
  have : i = j := by omega
  rw [this]
theorem cl_o (k : Nat) : ∀ e ∈ cl k, e.o.length < 1000000 := fun e he => by
  unfold cl at he
  obtain ⟨i, _, rfl⟩ := List.mem_map.1 he
  show (1 : Nat) < 1000000
  decide
end Go.Proofs.Ytpkkaadflbppcaa.Kt
