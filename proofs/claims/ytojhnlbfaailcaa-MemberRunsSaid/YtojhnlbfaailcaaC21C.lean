/- Part of the proofs of this seat's statements: what the functions compute. No condition. -/
import Derived.Test.YtojhnlbfaailcaaC21B
import Derived.Test.YtojhnlbfaailcaaK3
set_option linter.unusedSimpArgs false
set_option linter.unusedVariables false
namespace Go.Proofs.Ytojhnlbfaailcaa.Kt
open Go Kw Go.Proofs
attribute [local irreducible] Kw.GI Kw.GR Kw.FnR Kw.FnX
set_option maxHeartbeats 4000000
set_option maxRecDepth 100000
theorem eE_eq {l : List En} {L : List (List RV)} (h : l.map En.row = L) : eE l = some ⟨56, 5, L, false⟩ := by subst h; rfl
abbrev hT1 (k : Nat) : Option (TypeId × List AV) := some (51, [.sl k])
theorem stE_E (l : List En) : stE ⟨56, 5, l.map En.row, false⟩ = true := stLL_E l
abbrev rI (x : Int) : List RV := [.v (.int .i64 x)]
abbrev eI (l : List Int) : Option SE := some ⟨3, 1, l.map rI, false⟩
theorem eI_eq {l : List Int} {L : List (List RV)} (h : l.map rI = L) : eI l = some ⟨3, 1, L, false⟩ := by subst h; rfl
theorem stE_I : ∀ (l : List Int), stLL (l.map rI) = true
  | [] => rfl
  | x :: l => by rw [List.map_cons]; unfold stLL; rw [stE_I l]; rfl
/-- what may be told: a table whose entries are slice k -/
theorem pT {X : AV} {a : Nat} {S0 : Sp} (hX : stA X = true) (hS : ∀ e ∈ S0, ∀ s : SE, e = some s → stE s = true) : ∀ r H1 S1, (r = X ∧ H1 = [hT1 a] ∧ S1 = S0) → stA r = true ∧ StH H1 ∧ StS S1 := by
  rintro r H S ⟨rfl, rfl, rfl⟩
  refine ⟨hX, fun e he t cs hs => ?_, hS⟩
  rw [List.mem_singleton.1 he] at hs
  cases hs
  rfl
theorem sS1 (l : List En) : ∀ e ∈ [eE l], ∀ s : SE, e = some s → stE s = true := fun e he s hs => by
  rw [List.mem_singleton.1 he] at hs
  cases hs
  exact stE_E l
theorem sS2 (l : List En) (m : List Int) : ∀ e ∈ [eE l, eI m], ∀ s : SE, e = some s → stE s = true := fun e he s hs => by
  simp only [List.mem_cons, List.not_mem_nil, or_false] at he
  rcases he with rfl | rfl
  · cases hs; exact stE_E l
  · cases hs; exact stE_I m
theorem sS3 (l : List En) (m n : List Int) : ∀ e ∈ [eE l, eI m, eI n], ∀ s : SE, e = some s → stE s = true := fun e he s hs => by
  simp only [List.mem_cons, List.not_mem_nil, or_false] at he
  rcases he with rfl | rfl | rfl
  · cases hs; exact stE_E l
  · cases hs; exact stE_I m
  · cases hs; exact stE_I n
theorem New_ok : FnX Try.prog 10 [] [] [] (fun r H S => r = .box 0 0 ∧ H = [hT1 0] ∧ S = [eE []]) := by
  refine fnX_intro (T := TT) (n := 3) Try.func10 rfl rfl rfl (fun w X Z Y B => ?_)
  (repeat (first | (refine r_end ?_) | (refine r_op ?_; first | refine r_pure hT rfl rfl rfl rfl rfl rfl ?_ | refine r_load hT rfl rfl rfl rfl rfl rfl rfl rfl rfl ?_ | refine r_box rfl rfl rfl rfl rfl rfl rfl rfl rfl ?_ | refine r_store hT rfl rfl rfl rfl rfl rfl rfl rfl rfl rfl ?_ | refine r_off rfl rfl rfl rfl rfl ?_ | refine r_alloc hT rfl rfl rfl rfl rfl rfl rfl rfl rfl ?_ | refine r_lit hT rfl rfl rfl rfl rfl rfl rfl rfl rfl rfl rfl rfl rfl ?_ | refine r_off0 rfl rfl rfl rfl ?_) | (refine gi_seq ?_) | (refine gi_plain ?_) | (refine gi_skip ?_) | (refine gi_block ?_) | (refine gi_inBlock ?_) | (refine gi_exit rfl ?_) | (refine gi_cnd ?_; first | refine gi_true rfl ?_ | refine gi_false rfl ?_) | (refine gi_label ?_)))
  refine gi_adoptH (e := 56) (sz := 5) 0 0 rfl rfl ?_
  refine gi_retX hT Try.func10 rfl [0] [0] rfl rfl rfl rfl rfl rfl rfl rfl ?_
  exact ⟨rfl, rfl, rfl⟩
theorem mfind_ok (l : List En) (t : Int) (hl : l.length < 100000000) (hs : Srt l) : FnX Try.prog 24 [.box 0 0, I t] [hT1 0] [eE l] (fun r H S => r = .tup [I (pos l t), Bo (had l t)] ∧ H = [hT1 0] ∧ S = [eE l]) := by
  refine fnX_intro (T := TT) (n := 14) Try.func24 rfl rfl rfl (fun w X Z Y B => ?_)
  (repeat (first | (refine r_end ?_) | (refine r_op ?_; first | refine r_pure hT rfl rfl rfl rfl rfl rfl ?_ | refine r_load hT rfl rfl rfl rfl rfl rfl rfl rfl rfl ?_ | refine r_box rfl rfl rfl rfl rfl rfl rfl rfl rfl ?_ | refine r_store hT rfl rfl rfl rfl rfl rfl rfl rfl rfl rfl ?_ | refine r_off rfl rfl rfl rfl rfl ?_ | refine r_alloc hT rfl rfl rfl rfl rfl rfl rfl rfl rfl ?_ | refine r_lit hT rfl rfl rfl rfl rfl rfl rfl rfl rfl rfl rfl rfl rfl ?_ | refine r_off0 rfl rfl rfl rfl ?_) | (refine gi_seq ?_) | (refine gi_plain ?_) | (refine gi_skip ?_) | (refine gi_block ?_) | (refine gi_inBlock ?_) | (refine gi_exit rfl ?_) | (refine gi_cnd ?_; first | refine gi_true rfl ?_ | refine gi_false rfl ?_) | (refine gi_label ?_)))
  refine r_call (bsf_ok l t hl hs) rfl rfl rfl rfl rfl rfl rfl rfl Try.func28 rfl rfl rfl pF ?_
  rintro r S1 ⟨rfl, rfl⟩
  (repeat (first | (refine r_end ?_) | (refine r_op ?_; first | refine r_pure hT rfl rfl rfl rfl rfl rfl ?_ | refine r_load hT rfl rfl rfl rfl rfl rfl rfl rfl rfl ?_ | refine r_box rfl rfl rfl rfl rfl rfl rfl rfl rfl ?_ | refine r_store hT rfl rfl rfl rfl rfl rfl rfl rfl rfl rfl ?_ | refine r_off rfl rfl rfl rfl rfl ?_ | refine r_alloc hT rfl rfl rfl rfl rfl rfl rfl rfl rfl ?_ | refine r_lit hT rfl rfl rfl rfl rfl rfl rfl rfl rfl rfl rfl rfl rfl ?_ | refine r_off0 rfl rfl rfl rfl ?_) | (refine gi_seq ?_) | (refine gi_plain ?_) | (refine gi_skip ?_) | (refine gi_block ?_) | (refine gi_inBlock ?_) | (refine gi_exit rfl ?_) | (refine gi_cnd ?_; first | refine gi_true rfl ?_ | refine gi_false rfl ?_) | (refine gi_label ?_)))
  refine gi_retX hT Try.func24 rfl [0] [0] rfl rfl rfl rfl rfl rfl rfl rfl ?_
  exact ⟨rfl, rfl, rfl⟩
end Go.Proofs.Ytojhnlbfaailcaa.Kt
