/- Part of the proofs of this seat's statements: what the functions compute. No condition. -/
import Derived.Test.YtmocggibcniggaaC18Q
set_option linter.unusedSimpArgs false
set_option linter.unusedVariables false
namespace Go.Proofs.Ytmocggibcniggaa.Kt
open Go Kw Go.Proofs
theorem mem_ins {v x : Vt} : ∀ {l : List Vt}, x ∈ insV l v ↔ x = v ∨ x ∈ l
  | [] => by unfold insV; simp
  | y :: l => by
    unfold insV
    split
    · rw [List.mem_cons, mem_ins, List.mem_cons]
      constructor
      · rintro (h | h | h)
        · exact .inr (.inl h)
        · exact .inl h
        · exact .inr (.inr h)
      · rintro (h | h | h)
        · exact .inr (.inl h)
        · exact .inl h
        · exact .inr (.inr h)
    · split
      · rename_i h; subst h
        exact ⟨fun h => .inr h, fun h => h.elim (fun e => e ▸ List.mem_cons_self ..) id⟩
      · rw [List.mem_cons]
theorem vS_mem {m : List Vt} {x v : Vt} {y : Ls} : x ∈ vS m y ↔ x ∈ m ∨ (y.age < 3600 ∧ ((y.kind = 1 ∧ y.id = y.adv ∧ x = ⟨1, y.id⟩) ∨ (y.kind = 2 ∧ x = ⟨2, y.id⟩))) := by
  unfold vS
  rw [leB_eq]
  by_cases h : (3600 : Int) ≤ y.age
  · rw [decide_eq_true h]
    exact ⟨.inl, fun k => k.elim id (fun k => absurd k.1 (by omega))⟩
  · rw [decide_eq_false h]
    have ha : y.age < 3600 := by omega
    simp only
    unfold vS2 vS1
    rw [eqB_eq, eqB_eq, eqB_eq]
    by_cases h1 : y.kind = 1
    · by_cases h2 : y.id = y.adv
      · simp [h1, ← h2, ha, mem_ins, or_comm]
      · have e2 : (y.id == y.adv) = false := by simpa using h2
        simp [h1, h2, ha, e2]
    · have e1 : (y.kind == 1) = false := by simpa using h1
      by_cases h2 : y.kind = 2
      · simp [h2, ha, mem_ins, or_comm]
      · have e2 : (y.kind == 2) = false := by simpa using h2
        simp [h1, h2, ha, e1, e2]
theorem vfold_mem {x : Vt} : ∀ {l : List Ls} {m : List Vt}, x ∈ l.foldl vS m ↔ x ∈ m ∨ ∃ y ∈ l, y.age < 3600 ∧ ((y.kind = 1 ∧ y.id = y.adv ∧ x = ⟨1, y.id⟩) ∨ (y.kind = 2 ∧ x = ⟨2, y.id⟩))
  | [], m => by simp
  | y :: l, m => by
    rw [List.foldl_cons, vfold_mem, vS_mem (v := x)]
    simp only [List.mem_cons, exists_eq_or_imp, or_assoc]
theorem verts_mem {x : Vt} {l : List Ls} : x ∈ vertsL l ↔ ∃ y ∈ l, y.age < 3600 ∧ ((y.kind = 1 ∧ y.id = y.adv ∧ x = ⟨1, y.id⟩) ∨ (y.kind = 2 ∧ x = ⟨2, y.id⟩)) := by
  unfold vertsL
  rw [vfold_mem]
  simp
theorem verts_kind {x : Vt} {l : List Ls} (h : x ∈ vertsL l) : KindOk x := by
  obtain ⟨y, _, _, (⟨_, _, rfl⟩ | ⟨_, rfl⟩)⟩ := verts_mem.1 h
  · exact .inl rfl
  · exact .inr rfl
end Go.Proofs.Ytmocggibcniggaa.Kt
