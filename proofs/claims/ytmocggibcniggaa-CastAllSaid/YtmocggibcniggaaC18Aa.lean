/- Part of the proofs of this seat's statements: what the functions compute. No condition. -/
import Derived.Test.YtmocggibcniggaaC18U
import Derived.Test.YtmocggibcniggaaK4
set_option linter.unusedSimpArgs false
set_option linter.unusedVariables false
namespace Go.Proofs.Ytmocggibcniggaa.Kt
open Go Kw Go.Proofs
attribute [local irreducible] Kw.GI Kw.GR Kw.FnR Kw.FnX
set_option maxHeartbeats 8000000
set_option maxRecDepth 100000
/-! ### lists that are read -/
abbrev Ls.rowR (x : Ls) : List RV := [.v (.int .i64 x.age), .v (.int .i64 x.kind), .v (.int .i64 x.id), .v (.int .i64 x.adv), .v (.int .i64 x.seq), .v (.int .i64 x.sum), .v (.int .i64 x.len), .v (.int .i64 x.fl), .rs 4 (x.lk.map Lk.row), .v (.int .i64 x.bits), .rs 1 (x.rt.map nRow), .rs 2 (x.vt.map Vt.row)]
abbrev rsL (l : List Ls) : AV := .r (.rs 12 (l.map Ls.rowR))
theorem upLL_id {L : List (List RV)} (h : ∀ r ∈ L, upL r = r) : upLL L = L := by
  rw [upLL_map]
  conv => rhs; rw [← List.map_id L]
  exact List.map_congr_left (fun r hr => h r hr)
theorem up_lk (l : List Lk) : upLL (l.map Lk.row) = l.map Lk.row := upLL_id (fun r hr => by
  obtain ⟨x, _, rfl⟩ := List.mem_map.1 hr; rfl)
theorem up_n (l : List Int) : upLL (l.map nRow) = l.map nRow := upLL_id (fun r hr => by
  obtain ⟨x, _, rfl⟩ := List.mem_map.1 hr; rfl)
theorem up_v (l : List Vt) : upLL (l.map Vt.row) = l.map Vt.row := upLL_id (fun r hr => by
  obtain ⟨x, _, rfl⟩ := List.mem_map.1 hr; rfl)
theorem up_row (x : Ls) : upL x.rowR = x.row := by
  show [_, _, _, _, _, _, _, _, RV.fs 4 (upLL _), _, RV.fs 1 (upLL _), RV.fs 2 (upLL _)] = _
  rw [up_lk, up_n, up_v]
  rfl
theorem up_rsL (l : List Ls) : upA (rsL l) = fsL l := by
  show AV.r (.fs 12 (upLL (l.map Ls.rowR))) = _
  rw [upLL_map, List.map_map]
  congr 2
  exact List.map_congr_left (fun x _ => up_row x)
theorem up_Vt (v : Vt) : upA v.av = v.av := rfl
/-! ### the trees, as plain answers -/
theorem pl_Nd (l : List Nd) : ∀ row ∈ l.map Nd.row, ∀ x ∈ row, ∃ v, x = RV.v v := by
  intro row hr x hx
  obtain ⟨n, _, rfl⟩ := List.mem_map.1 hr
  simp only [Nd.row, List.mem_cons, List.not_mem_nil, or_false] at hx
  rcases hx with rfl | rfl | rfl | rfl | rfl <;> exact ⟨_, rfl⟩
abbrev RT1 (t : List Nd) : AV → Sp → Prop := fun r S => r = .sl 0 ∧ S = [eNd t]
theorem pT1 {l : List Nd} : ∀ r S1, (r = .sl 0 ∧ S1 = [eNd l]) → plainA r = true ∧ PlainS S1 := by
  rintro r S ⟨rfl, rfl⟩
  refine ⟨rfl, fun e he s hs => ?_⟩
  rw [List.mem_singleton] at he
  subst he
  cases hs
  exact ⟨rfl, pl_Nd l⟩
theorem rTreeR (m : Mp) (root : Vt) (hv : m.vs.length ≤ 10000) (he : m.es.length ≤ 10000000) : FnR Try.prog 50 [avMf m, root.av] (RT1 (refTree m root)) :=
  fnR_of ((rTree_ok m root hv he).mono (fun r H S h => ⟨h.2.1, h.1, h.2.2⟩))
theorem pTreeR (m : Mp) (root : Vt) (hv : m.vs.length ≤ 10000) (he : m.es.length ≤ 10000000) (hto : ∀ e ∈ m.es, m.vs.any (fun x => decide (x = e.t)) = true) : FnR Try.prog 49 [avMf m, root.av] (RT1 (prgTree m root)) :=
  fnR_of ((pTree_ok m root hv he hto).mono (fun r H S h => ⟨h.2.1, h.1, h.2.2⟩))
theorem treeN_len {bt : List Nd → Nd → Nd → Bool} {es : List Eg} : ∀ (k : Nat) (t : List Nd), (treeN bt es k t).length ≤ t.length + k
  | 0, t => by unfold treeN; omega
  | k + 1, t => by
    cases hb : bestL bt t es with
    | none => rw [treeN_none hb]; omega
    | some n =>
      rw [treeN_some hb]
      have := treeN_len (bt := bt) (es := es) k (t ++ [n])
      rw [List.length_append, List.length_singleton] at this
      omega
theorem refTree_len (m : Mp) (root : Vt) : (refTree m root).length ≤ m.vs.length + 1 := by
  unfold refTree
  split
  · have := treeN_len (bt := soon) (es := m.es) m.vs.length [rootN root]
    rw [List.length_singleton] at this
    omega
  · exact Nat.zero_le _
theorem map_vs {l : List Ls} (h : Few l) : (mapL l).vs.length ≤ 2000 := by
  have := verts_len l
  have := h.len
  show (vertsL l).length ≤ _
  omega
theorem map_es {l : List Ls} (h : Few l) : (mapL l).es.length ≤ 10000000 := by
  have h1 := flat_len (f := fromL l) (c := 3000) (fun v => from_len h v) (vertsL l)
  have h2 := map_vs h
  have h3 : (vertsL l).length ≤ 2000 := h2
  show ((vertsL l).flatMap (fromL l)).length ≤ _
  omega
theorem map_any {l : List Ls} : ∀ e ∈ (mapL l).es, (mapL l).vs.any (fun x => decide (x = e.t)) = true := fun e he =>
  List.any_eq_true.2 ⟨e.t, (map_to he).1, decide_eq_true rfl⟩
/-- The trees of the map of a short list. -/
theorem pTreeL (l : List Ls) (root : Vt) (h : Few l) : FnR Try.prog 49 [avMf (mapL l), root.av] (RT1 (refTree (mapL l) root)) := by
  have := pTreeR (mapL l) root (Nat.le_trans (map_vs h) (by decide)) (map_es h) map_any
  rwa [map_same] at this
theorem rTreeL (l : List Ls) (root : Vt) (h : Few l) : FnR Try.prog 50 [avMf (mapL l), root.av] (RT1 (refTree (mapL l) root)) :=
  rTreeR (mapL l) root (Nat.le_trans (map_vs h) (by decide)) (map_es h)
theorem tree_lt {l : List Ls} (h : Few l) (root : Vt) : (refTree (mapL l) root).length < 1000000 := by
  have := refTree_len (mapL l) root
  have := map_vs h
  omega
theorem pl_rows {α : Type} {f : α → List RV} (hf : ∀ x, ∀ c ∈ f x, ∃ v, c = RV.v v) (l : List α) : ∀ row ∈ l.map f, ∀ x ∈ row, ∃ v, x = RV.v v := by
  intro row hr x hx
  obtain ⟨n, _, rfl⟩ := List.mem_map.1 hr
  exact hf n x hx
theorem pMapP {m : Mp} : ∀ r S1, (r = avM ∧ S1 = SM m) → plainA r = true ∧ PlainS S1 := by
  rintro r S ⟨rfl, rfl⟩
  refine ⟨rfl, fun e he s hs => ?_⟩
  simp only [SM, List.mem_cons, List.not_mem_nil, or_false] at he
  rcases he with rfl | rfl | rfl | rfl | rfl <;> cases hs
  · exact ⟨rfl, pl_rows (fun x c hc => by simp only [List.mem_cons, List.not_mem_nil, or_false] at hc; rcases hc with rfl | rfl <;> exact ⟨_, rfl⟩) _⟩
  · exact ⟨rfl, pl_rows (fun x c hc => by simp only [List.mem_cons, List.not_mem_nil, or_false] at hc; rcases hc with rfl | rfl | rfl | rfl | rfl | rfl <;> exact ⟨_, rfl⟩) _⟩
  · exact ⟨rfl, pl_rows (fun x c hc => by simp only [List.mem_cons, List.not_mem_nil, or_false] at hc; rcases hc with rfl | rfl | rfl | rfl <;> exact ⟨_, rfl⟩) _⟩
  · exact ⟨rfl, pl_rows (fun x c hc => by simp only [List.mem_cons, List.not_mem_nil, or_false] at hc; rcases hc with rfl | rfl | rfl | rfl <;> exact ⟨_, rfl⟩) _⟩
  · exact ⟨rfl, pl_rows (fun x c hc => by simp only [List.mem_cons, List.not_mem_nil, or_false] at hc; rcases hc with rfl; exact ⟨_, rfl⟩) _⟩
abbrev RM (l : List Ls) : AV → Sp → Prop := fun r S => r = avM ∧ S = SM (mapL l)
theorem MapF (l : List Ls) (h : Few l) : FnR Try.prog 15 [fsL l] (RM l) := fnR_of ((Map_ok l h).mono (fun r H S h => ⟨h.2.1, h.1, h.2.2⟩))
/-- The map of a list that is read. -/
theorem MapR (l : List Ls) (h : Few l) : FnR Try.prog 15 [rsL l] (RM l) := FnR.up (by
  show FnR _ _ [upA (rsL l)] _
  rw [up_rsL]; exact MapF l h) pMapP
end Go.Proofs.Ytmocggibcniggaa.Kt
