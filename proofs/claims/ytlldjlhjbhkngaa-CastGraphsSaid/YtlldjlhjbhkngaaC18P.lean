/- Part of the proofs of this seat's statements: what the functions compute. No condition. -/
import Derived.Test.YtlldjlhjbhkngaaC18O
set_option linter.unusedSimpArgs false
set_option linter.unusedVariables false
namespace Go.Proofs.Ytlldjlhjbhkngaa.Kt
open Go Kw Go.Proofs
attribute [local irreducible] Kw.GI Kw.GR Kw.FnR Kw.FnX
set_option maxHeartbeats 16000000
set_option maxRecDepth 100000
abbrev MO : Nat := 4294967295
abbrev hMp (l : MapL) : Option (TypeId × List AV) := some (4294967295, mapC l)
def prgTree (m : Mp) (root : Vt) : List Nd := match m.vs.any (fun x => decide (x = root)) with
  | true => treeN betr m.es m.vs.length [rootN root]
  | false => []
theorem pig : ∀ {l l' : List Vt}, l.Nodup → (∀ x ∈ l, x ∈ l') → l.length ≤ l'.length
  | [], _, _, _ => Nat.zero_le _
  | x :: l, l', h, hs => by
    rw [List.nodup_cons] at h
    have hx := hs x (List.mem_cons_self ..)
    have h1 := pig (l := l) (l' := l'.erase x) h.2 (fun y hy => (List.mem_erase_of_ne (fun (e : y = x) => h.1 (by rw [← e]; exact hy))).2 (hs y (List.mem_cons_of_mem _ hy)))
    have h2 := List.length_erase_of_mem hx
    have h3 := List.length_pos_of_mem hx
    rw [List.length_cons]
    omega
theorem scL_mapC {n k : Nat} : ∀ (l : MapL), scL n k (mapC l) = true
  | [] => rfl
  | (a, b, v) :: l => by
    show (true && (true && (true && scL n k (mapC l)))) = true
    rw [scL_mapC l]; rfl
theorem pkL_mapC {bs ks : List Nat} : ∀ (l : MapL), pkL bs ks (mapC l) = mapC l
  | [] => rfl
  | (a, b, v) :: l => by
    show _ :: _ :: _ :: pkL bs ks (mapC l) = mapC ((a, b, v) :: l)
    rw [pkL_mapC l]; rfl
theorem cut_mapC {k : Nat} : ∀ (l : MapL), cutLP (noK k) (mapC l) = mapC l
  | [] => rfl
  | (a, b, v) :: l => by
    show _ :: _ :: _ :: cutLP (noK k) (mapC l) = mapC ((a, b, v) :: l)
    rw [cut_mapC l]; rfl
theorem sc1 {n k : Nat} {F : Fr} {m : Mp} {root : Vt} {l : MapL} (h : scF n k F = true) : (scF n k F && (true && (true && (scL n k (mapC l) && true)))) = true := by
  rw [h, scL_mapC]; rfl
def placeJ : Option Nat → Int
  | some i => i
  | none => 0
theorem lk_ok (v : Vt) (t : List Nd) : (AV.tup [I (placeJ (placeL t v)), Bo (placeL t v).isSome]) = if true then .tup [.r (.v (((lookM v.k v.i (pmap 0 t)).map (·.2)).getD (.int .i64 0))), .r (.v (.bool (lookM v.k v.i (pmap 0 t)).isSome))] else .r (.v (((lookM v.k v.i (pmap 0 t)).map (·.2)).getD (.int .i64 0))) := by
  rw [pmap_look]
  cases placeL t v with
  | none => rfl
  | some p => rfl
theorem isM_ok (v : Vt) (vs : List Vt) : (Bo (vs.any (fun x => decide (x = v)))) = if false then .tup [.r (.v (((lookM v.k v.i (isM vs)).map (·.2)).getD (.bool false))), .r (.v (.bool (lookM v.k v.i (isM vs)).isSome))] else .r (.v (((lookM v.k v.i (isM vs)).map (·.2)).getD (.bool false))) := by
  rw [isM_val]
  rfl
theorem sc2 {b : Bool} {l l' : MapL} {n k : Nat} (h : b = true) : (b && (true && (true && (scL n k (mapC l) && (scL n k (mapC l') && (true && true)))))) = true := by
  rw [h, scL_mapC, scL_mapC]; rfl
theorem best_fold {bt : List Nd → Nd → Nd → Bool} {t : List Nd} {b : Nd} : ∀ {es : List Eg} {m : Option Nd}, es.foldl (stepT bt t) m = some b → m = some b ∨ ∃ e ∈ es, candL t e = some b
  | [], m, h => .inl h
  | e :: es, m, h => by
    rcases best_fold (es := es) h with h | ⟨e', h1, h2⟩
    · unfold stepT at h
      split at h
      · exact .inl h
      · rename_i n hn
        split at h
        · cases h; exact .inr ⟨e, List.mem_cons_self .., hn⟩
        · split at h
          · cases h; exact .inr ⟨e, List.mem_cons_self .., hn⟩
          · exact .inl h
    · exact .inr ⟨e', List.mem_cons_of_mem _ h1, h2⟩
theorem best_new {bt : List Nd → Nd → Nd → Bool} {t : List Nd} {b : Nd} {es : List Eg} (h : bestL bt t es = some b) : placeL t b.v = none ∧ ∃ e ∈ es, b.v = e.t := by
  rcases best_fold h with h | ⟨e, h1, h2⟩
  · cases h
  · unfold candL at h2
    split at h2
    · rename_i hq
      cases h2
      exact ⟨hq, e, h1, rfl⟩
    · cases h2
end Go.Proofs.Ytlldjlhjbhkngaa.Kt
