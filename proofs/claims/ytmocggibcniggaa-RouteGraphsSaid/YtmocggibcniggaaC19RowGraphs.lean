/- plenumlaw19.RouteGraphs answers true, whatever the numbers are. No condition. -/
import Derived.Test.YtmocggibcniggaaG2
import Derived.Test.YtmocggibcniggaaG5
set_option linter.unusedSimpArgs false
set_option linter.unusedVariables false
namespace Go.Proofs.Ytmocggibcniggaa.Kt
open Go Kw Go.Proofs Go.Proofs.Ytmocggibcniggaa Go.ChangeShapes Go.WideShapes Go.ChangeAt Go.RowKit
set_option linter.unusedVariables false
set_option maxRecDepth 100000 in
theorem routeGraphs_lifted (os : Os) (started : os.Started) (H : Type) (enc : TypeId × Value → H) :
    ReturnsInHanded {} Try.checked os 5 .any (Rows.routeGraphsSpec.pre6 enc Try.prog Try.f5 Rows.routeGraphsRow.domain false) (Rows.routeGraphsSpec.post enc Try.prog Try.f5 false true false false) := by
  refine returnsInHanded_of_change_sized (C := Try.checked) own started (by kernel_rfl) Try.func5
    (ChangeSpec.witness6 (enc := enc) (C := Try.checked) false ⟨#[], #[.int .u8 0, .slice none 0 0, .slice none 0 0, .slice none 0 0], []⟩ 8 (by kernel_rfl) (by kernel_rfl) (by kernel_rfl) (by kernel_rfl)) ?_
  intro W base args ds gs before hval0 hW hcnd hsz0 _
  have hval : ∀ (j : Nat) t v, Try.f5.params[j]? = some t → args[j]? = some v → Value.okWide Try.prog W .any base t v := hval0
  have hsz : (DataW.weightsEach Try.prog (Try.f5.params.toList ++ Rows.routeGraphsSpec.plain.varTypes Try.prog) (ds ++ gs)).all (· ≤ reachBytes) = true := hsz0
  have hW' := hW
  obtain ⟨p, q, hA0, hV, rfl, hfz, hnd⟩ := hW
  have hA : DataW.TrodAll enc Try.prog W 0 (fun _ => true) true Try.f5.params.toList args.toList ds p := hA0
  obtain ⟨v0, vs0, d0, ds0, p0, q0, hargs, rfl, rfl, h0, r0⟩ := trodAll_cons hA
  obtain ⟨v1, vs1, d1, ds1, p1, q1, rfl, rfl, rfl, h1, r1⟩ := trodAll_cons r0
  obtain ⟨v2, vs2, d2, ds2, p2, q2, rfl, rfl, rfl, h2, r2⟩ := trodAll_cons r1
  obtain ⟨v3, vs3, d3, ds3, p3, q3, rfl, rfl, rfl, h3, r3⟩ := trodAll_cons r2
  obtain ⟨rfl, rfl, rfl⟩ := trodAll_nil r3
  obtain rfl : args = #[v0, v1, v2, v3] := by cases args; simp_all
  obtain ⟨rfl, rfl⟩ := trodVars_none hV
  obtain ⟨a, ha, c0⟩ := (arg_int Try.underlying5) (hval 0 5 v0 rfl rfl) h0
  obtain ⟨ps, hps, c1⟩ := (arg_ints Try.underlying46 Try.underlying5 (by kernel_rfl) (by kernel_rfl)) (hval 1 46 v1 rfl rfl) h1
  obtain ⟨qs, hqs, c2⟩ := (arg_ints Try.underlying46 Try.underlying5 (by kernel_rfl) (by kernel_rfl)) (hval 2 46 v2 rfl rfl) h2
  obtain ⟨bs, c3⟩ := (arg_bools Try.underlying60 Try.underlying4 (by kernel_rfl) (by kernel_rfl)) (hval 3 60 v3 rfl rfl) h3
  have hcl := (CL_cons' c0 (CL_cons' c1 (CL_cons' c2 (CL_cons' c3 CL_nil'))))
  refine ((RouteGraphs_ok a (of_wf_u8 ha) ps qs (fun p h => of_wf_u8 (hps p h)) (fun p h => of_wf_u8 (hqs p h)) bs) W (fun _ => False) (E0 W) _ (Sat.init W) hcl).mono fun e W' hh => ?_
  obtain ⟨u, r, H', S, E, rfl, ⟨rfl, rfl, rfl⟩, hc, hsat, _⟩ := hh
  have hu := C_v hc
  subst hu
  exact ⟨_, rfl, _, _, _, [], _, [], hW', trodAll_mk1 (shut_bool Try.underlying4 _), trodAll_below laidOut hsat.below (by kernel_rfl) hA, rfl, hsat.below.frame _, fun h => by cases h⟩
theorem routeGraphs_holds : Rows.RouteGraphsSaid :=
  OpenClaim.holds_of_wide 5 Try.f5 rfl rfl rfl rfl rfl rfl rfl ⟨rfl, rfl, rfl, rfl, rfl⟩ rfl rfl rfl rfl rfl (by kernel_rfl) Try.func5 (by kernel_rfl)
    (of_decide_eq_true (by kernel_rfl)) (by unfold Func.isWrapper; first | (rw [if_pos (by decide +kernel)]; kernel_rfl) | (rw [if_neg (by decide +kernel)]; exact ⟨rfl, rfl⟩))
    (fun os started H enc _ => routeGraphs_lifted os started H enc)
#print axioms routeGraphs_holds
end Go.Proofs.Ytmocggibcniggaa.Kt
