/- So of maps that hang together, from each of their nets. No condition. -/
import Derived.Test.YtlldjlhjbhkngaaC18Op
import Derived.Test.YtlldjlhjbhkngaaC23R
set_option linter.unusedSimpArgs false
set_option linter.unusedVariables false
namespace Go.Proofs.Ytlldjlhjbhkngaa.Kt
open Go Kw Go.Proofs Go.Proofs.Ytlldjlhjbhkngaa Go.ChangeShapes Go.WideShapes Go.ChangeAt Go.RowKit
set_option linter.unusedVariables false
set_option maxRecDepth 100000 in
theorem castGraphs_lifted (os : Os) (started : os.Started) (H : Type) (enc : TypeId × Value → H) :
    ReturnsInHanded {} Try.checked os 12 .any (Rows.castGraphsSpec.pre6 enc Try.prog Try.f12 Rows.castGraphsRow.domain false) (Rows.castGraphsSpec.post enc Try.prog Try.f12 false true false false) := by
  refine returnsInHanded_of_change_sized (C := Try.checked) own started (by kernel_rfl) Try.func12
    (ChangeSpec.witness6 (enc := enc) (C := Try.checked) false ⟨#[], #[.int .u8 0, .slice none 0 0, .slice none 0 0, .slice none 0 0, .slice none 0 0], []⟩ 8 (by kernel_rfl) (by kernel_rfl) (by kernel_rfl) (by kernel_rfl)) ?_
  intro W base args ds gs before hval0 hW hcnd hsz0 _
  have hval : ∀ (j : Nat) t v, Try.f12.params[j]? = some t → args[j]? = some v → Value.okWide Try.prog W .any base t v := hval0
  have hsz : (DataW.weightsEach Try.prog (Try.f12.params.toList ++ Rows.castGraphsSpec.plain.varTypes Try.prog) (ds ++ gs)).all (· ≤ reachBytes) = true := hsz0
  have hW' := hW
  obtain ⟨p, q, hA0, hV, rfl, hfz, hnd⟩ := hW
  have hA : DataW.TrodAll enc Try.prog W 0 (fun _ => true) true Try.f12.params.toList args.toList ds p := hA0
  obtain ⟨v0, vs0, d0, ds0, p0, q0, hargs, rfl, rfl, h0, r0⟩ := trodAll_cons hA
  obtain ⟨v1, vs1, d1, ds1, p1, q1, rfl, rfl, rfl, h1, r1⟩ := trodAll_cons r0
  obtain ⟨v2, vs2, d2, ds2, p2, q2, rfl, rfl, rfl, h2, r2⟩ := trodAll_cons r1
  obtain ⟨v3, vs3, d3, ds3, p3, q3, rfl, rfl, rfl, h3, r3⟩ := trodAll_cons r2
  obtain ⟨v4, vs4, d4, ds4, p4, q4, rfl, rfl, rfl, h4, r4⟩ := trodAll_cons r3
  obtain ⟨rfl, rfl, rfl⟩ := trodAll_nil r4
  obtain rfl : args = #[v0, v1, v2, v3, v4] := by cases args; simp_all
  obtain ⟨rfl, rfl⟩ := trodVars_none hV
  obtain ⟨a, ha, c0⟩ := (arg_int Try.underlying5) (hval 0 5 v0 rfl rfl) h0
  obtain ⟨ps, hps, c1⟩ := (arg_ints Try.underlying22 Try.underlying5 (by kernel_rfl) (by kernel_rfl)) (hval 1 22 v1 rfl rfl) h1
  obtain ⟨qs, hqs, c2⟩ := (arg_ints Try.underlying22 Try.underlying5 (by kernel_rfl) (by kernel_rfl)) (hval 2 22 v2 rfl rfl) h2
  obtain ⟨bs, c3⟩ := (arg_bools Try.underlying23 Try.underlying4 (by kernel_rfl) (by kernel_rfl)) (hval 3 23 v3 rfl rfl) h3
  obtain ⟨vs, c4⟩ := arg_verts (hval 4 24 v4 rfl rfl) h4
  have hcl := (CL_cons' c0 (CL_cons' c1 (CL_cons' c2 (CL_cons' c3 (CL_cons' c4 CL_nil')))))
  refine ((CastGraphs_ok a (of_wf_u8 ha) ps qs (fun p h => of_wf_u8 (hps p h)) (fun p h => of_wf_u8 (hqs p h)) bs vs) W (fun _ => False) (E0 W) _ (Sat.init W) hcl).mono fun e W' hh => ?_
  obtain ⟨u, r, H', S, E, rfl, ⟨rfl, rfl, rfl⟩, hc, hsat, _⟩ := hh
  have hu := C_v hc
  subst hu
  exact ⟨_, rfl, _, _, _, [], _, [], hW', trodAll_mk1 (shut_bool Try.underlying4 _), trodAll_below laidOut hsat.below (by kernel_rfl) hA, rfl, hsat.below.frame _, fun h => by cases h⟩
theorem castGraphs_holds : Rows.CastGraphsSaid :=
  OpenClaim.holds_of_wide 12 Try.f12 rfl rfl rfl rfl rfl rfl rfl ⟨rfl, rfl, rfl, rfl, rfl⟩ rfl rfl rfl rfl rfl (by kernel_rfl) Try.func12 (by kernel_rfl)
    (of_decide_eq_true (by kernel_rfl)) (by unfold Func.isWrapper; first | (rw [if_pos (by decide +kernel)]; kernel_rfl) | (rw [if_neg (by decide +kernel)]; exact ⟨rfl, rfl⟩))
    (fun os started H enc _ => castGraphs_lifted os started H enc)
#print axioms castGraphs_holds
end Go.Proofs.Ytlldjlhjbhkngaa.Kt
