/- Part of the proofs of this seat's statements: what the functions compute. No condition. -/
import Derived.Test.YtmocggibcniggaaC18E
set_option linter.unusedSimpArgs false
set_option linter.unusedVariables false
namespace Go.Proofs.Ytmocggibcniggaa.Kt
open Go Kw Go.Proofs
attribute [local irreducible] Kw.GI Kw.GR Kw.FnR Kw.FnX
set_option maxHeartbeats 8000000
set_option maxRecDepth 100000
def edK1 (l : List Ls) (v : Vt) (k : Lk) : List Eg := match eqB k.k 1 with
  | true => (match (findL l ⟨1, k.i⟩).isSome && (backL ((findL l ⟨1, k.i⟩).getD zLs).lk 1 v.i).isSome with
    | true => [⟨v, ⟨1, k.i⟩, k.c, k.d⟩]
    | false => [])
  | false => []
def edK2 (l : List Ls) (v : Vt) (k : Lk) : List Eg := match eqB k.k 2 with
  | true => (match (findL l ⟨2, k.i⟩).isSome && ((findL l ⟨2, k.i⟩).getD zLs).rt.contains v.i with
    | true => [⟨v, ⟨2, k.i⟩, k.c, k.d⟩]
    | false => [])
  | false => []
def edK (l : List Ls) (v : Vt) (k : Lk) : List Eg := edK1 l v k ++ edK2 l v k
def edR (l : List Ls) (v : Vt) (pre : List Int) (r : Int) : List Eg := match pre.contains r with
  | true => []
  | false => (match (findL l ⟨1, r⟩).isSome && (backL ((findL l ⟨1, r⟩).getD zLs).lk 2 v.i).isSome with
    | true => [⟨v, ⟨1, r⟩, 0, ((backL ((findL l ⟨1, r⟩).getD zLs).lk 2 v.i).getD zLk).d⟩]
    | false => [])
def edRs (l : List Ls) (v : Vt) (rt : List Int) : Nat → List Eg
  | 0 => []
  | j + 1 => edRs l v rt j ++ (match rt[j]? with
    | some r => edR l v (rt.take j) r
    | none => [])
def fromL (l : List Ls) (v : Vt) : List Eg := ((findL l v).getD zLs).lk.flatMap (edK l v) ++ edRs l v ((findL l v).getD zLs).rt ((findL l v).getD zLs).rt.length
theorem flat_take {α β : Type} (f : α → List β) {l : List α} {j : Nat} {x : α} (h : l[j]? = some x) : (l.take (j + 1)).flatMap f = (l.take j).flatMap f ++ f x := by
  rw [take_snoc h, List.flatMap_append]; simp
theorem edK1_len (l : List Ls) (v : Vt) (k : Lk) : (edK1 l v k).length ≤ 1 := by
  unfold edK1; split
  · split <;> simp
  · simp
theorem edK2_len (l : List Ls) (v : Vt) (k : Lk) : (edK2 l v k).length ≤ 1 := by
  unfold edK2; split
  · split <;> simp
  · simp
theorem edR_len (l : List Ls) (v : Vt) (p : List Int) (k : Int) : (edR l v p k).length ≤ 1 := by
  unfold edR; split
  · simp
  · split <;> simp
theorem edRs_len (l : List Ls) (v : Vt) (rt : List Int) : ∀ j, (edRs l v rt j).length ≤ j
  | 0 => Nat.le_refl _
  | j + 1 => by
    unfold edRs
    rw [List.length_append]
    have := edRs_len l v rt j
    cases rt[j]? with
    | none => simp; omega
    | some r => have := edR_len l v (rt.take j) r; simp only; omega
theorem flatK_len (l : List Ls) (v : Vt) : ∀ (ks : List Lk), (ks.flatMap (edK l v)).length ≤ 2 * ks.length
  | [] => by simp
  | k :: ks => by
    have h1 := flatK_len l v ks
    have h2 := edK1_len l v k
    have h3 := edK2_len l v k
    have h4 : (edK l v k).length = (edK1 l v k).length + (edK2 l v k).length := List.length_append
    rw [List.flatMap_cons, List.length_append, List.length_cons]
    omega
theorem find_mem {l : List Ls} {v : Vt} {x : Ls} (h : findL l v = some x) : x ∈ l := by
  have : ∀ (l : List Ls) (m : Option Ls), l.foldl (fdS v) m = some x → m = some x ∨ x ∈ l := by
    intro l
    induction l with
    | nil => intro m h; exact .inl h
    | cons y l ih =>
      intro m h
      rw [List.foldl_cons] at h
      rcases ih _ h with h | h
      · unfold fdS at h
        split at h
        · cases h; exact .inr (List.mem_cons_self ..)
        · exact .inl h
      · exact .inr (List.mem_cons_of_mem _ h)
  rcases this l none h with h | h
  · cases h
  · exact h
/-- Short lists. -/
structure Few (l : List Ls) : Prop where
  len : l.length ≤ 1000
  lk : ∀ x ∈ l, x.lk.length ≤ 1000
  rt : ∀ x ∈ l, x.rt.length ≤ 1000
theorem Few.fl {l : List Ls} (h : Few l) (v : Vt) : ((findL l v).getD zLs).lk.length ≤ 1000 := by
  cases hx : findL l v with
  | none => exact Nat.zero_le _
  | some x => exact h.lk x (find_mem hx)
theorem Few.fr {l : List Ls} (h : Few l) (v : Vt) : ((findL l v).getD zLs).rt.length ≤ 1000 := by
  cases hx : findL l v with
  | none => exact Nat.zero_le _
  | some x => exact h.rt x (find_mem hx)
theorem from_len {l : List Ls} (h : Few l) (v : Vt) : (fromL l v).length ≤ 3000 := by
  unfold fromL
  rw [List.length_append]
  have h1 := flatK_len l v ((findL l v).getD zLs).lk
  have h2 := edRs_len l v ((findL l v).getD zLs).rt ((findL l v).getD zLs).rt.length
  have := h.fl v
  have := h.fr v
  omega
theorem pE1 {l : List Eg} : ∀ r H1 S1, RV1 (eE l) r H1 S1 → stA r = true ∧ StH H1 ∧ StS S1 := by
  rintro r H S ⟨rfl, rfl, rfl⟩
  refine ⟨rfl, StH.nil, fun e he s hs => ?_⟩
  rw [List.mem_singleton.1 he] at hs
  cases hs
  exact stLL_E l
abbrev hLk (x : Lk) : Option (TypeId × List AV) := some (54, [I x.k, I x.i, I x.d, I x.c])
theorem eE_app (a b : List Eg) : some (⟨69, 6, a.map Eg.row ++ b.map Eg.row, false⟩ : SE) = eE (a ++ b) := by rw [eE, List.map_append]
end Go.Proofs.Ytmocggibcniggaa.Kt
