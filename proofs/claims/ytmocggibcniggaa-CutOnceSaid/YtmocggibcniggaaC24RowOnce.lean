/- plenumlaw24.CutOnce answers true, whatever the numbers and the lists are. No condition. -/
import Derived.Test.YtmocggibcniggaaG2
import Derived.Test.YtmocggibcniggaaG6
set_option linter.unusedSimpArgs false
set_option linter.unusedVariables false
namespace Go.Proofs.Ytmocggibcniggaa.Kt
open Go Kw Go.Proofs Go.Proofs.Ytmocggibcniggaa Go.ChangeShapes Go.WideShapes Go.ChangeAt Go.RowKit
set_option linter.unusedVariables false
set_option maxRecDepth 100000 in
theorem cutOnce_lifted (os : Os) (started : os.Started) (H : Type) (enc : TypeId × Value → H) :
    ReturnsInHanded {} Try.checked os 10 .any (Rows.cutOnceSpec.pre6 enc Try.prog Try.f10 Rows.cutOnceRow.domain false) (Rows.cutOnceSpec.post enc Try.prog Try.f10 false true false false) := by
  refine returnsInHanded_of_change_sized (C := Try.checked) own started (by kernel_rfl) Try.func10
    (ChangeSpec.witness6 (enc := enc) (C := Try.checked) false ⟨#[], #[.int .u8 0, .slice none 0 0, .slice none 0 0, .int .u8 0, .int .u8 0, .int .u8 0], []⟩ 8 (by kernel_rfl) (by kernel_rfl) (by kernel_rfl) (by kernel_rfl)) ?_
  intro W base args ds gs before hval0 hW hcnd hsz0 _
  have hval : ∀ (j : Nat) t v, Try.f10.params[j]? = some t → args[j]? = some v → Value.okWide Try.prog W .any base t v := hval0
  have hsz : (DataW.weightsEach Try.prog (Try.f10.params.toList ++ Rows.cutOnceSpec.plain.varTypes Try.prog) (ds ++ gs)).all (· ≤ reachBytes) = true := hsz0
  have hW' := hW
  obtain ⟨p, q, hA0, hV, rfl, hfz, hnd⟩ := hW
  have hA : DataW.TrodAll enc Try.prog W 0 (fun _ => true) true Try.f10.params.toList args.toList ds p := hA0
  obtain ⟨v0, vs0, d0, ds0, p0, q0, hargs, rfl, rfl, h0, r0⟩ := trodAll_cons hA
  obtain ⟨v1, vs1, d1, ds1, p1, q1, rfl, rfl, rfl, h1, r1⟩ := trodAll_cons r0
  obtain ⟨v2, vs2, d2, ds2, p2, q2, rfl, rfl, rfl, h2, r2⟩ := trodAll_cons r1
  obtain ⟨v3, vs3, d3, ds3, p3, q3, rfl, rfl, rfl, h3, r3⟩ := trodAll_cons r2
  obtain ⟨v4, vs4, d4, ds4, p4, q4, rfl, rfl, rfl, h4, r4⟩ := trodAll_cons r3
  obtain ⟨v5, vs5, d5, ds5, p5, q5, rfl, rfl, rfl, h5, r5⟩ := trodAll_cons r4
  obtain ⟨rfl, rfl, rfl⟩ := trodAll_nil r5
  obtain rfl : args = #[v0, v1, v2, v3, v4, v5] := by cases args; simp_all
  obtain ⟨rfl, rfl⟩ := trodVars_none hV
  obtain ⟨a, ha, c0⟩ := (arg_int Try.underlying5) (hval 0 5 v0 rfl rfl) h0
  obtain ⟨ps, hps, c1⟩ := (arg_ints Try.underlying46 Try.underlying5 (by kernel_rfl) (by kernel_rfl)) (hval 1 46 v1 rfl rfl) h1
  obtain ⟨qs, hqs, c2⟩ := (arg_ints Try.underlying46 Try.underlying5 (by kernel_rfl) (by kernel_rfl)) (hval 2 46 v2 rfl rfl) h2
  obtain ⟨b, hb, c3⟩ := (arg_int Try.underlying5) (hval 3 5 v3 rfl rfl) h3
  obtain ⟨d, hd, c4⟩ := (arg_int Try.underlying5) (hval 4 5 v4 rfl rfl) h4
  obtain ⟨e, he, c5⟩ := (arg_int Try.underlying5) (hval 5 5 v5 rfl rfl) h5
  have hcl := (CL_cons' c0 (CL_cons' c1 (CL_cons' c2 (CL_cons' c3 (CL_cons' c4 (CL_cons' c5 CL_nil'))))))
  refine ((CutOnce_ok a (of_wf_u8 ha) ps qs (fun p h => of_wf_u8 (hps p h)) (fun p h => of_wf_u8 (hqs p h)) b (of_wf_u8 hb) d e) W (fun _ => False) (E0 W) _ (Sat.init W) hcl).mono fun e W' hh => ?_
  obtain ⟨u, r, H', S, E, rfl, ⟨rfl, rfl, rfl⟩, hc, hsat, _⟩ := hh
  have hu := C_v hc
  subst hu
  exact ⟨_, rfl, _, _, _, [], _, [], hW', trodAll_mk1 (shut_bool Try.underlying4 _), trodAll_below laidOut hsat.below (by kernel_rfl) hA, rfl, hsat.below.frame _, fun h => by cases h⟩
theorem cutOnce_holds : Rows.CutOnceSaid :=
  OpenClaim.holds_of_wide 10 Try.f10 rfl rfl rfl rfl rfl rfl rfl ⟨rfl, rfl, rfl, rfl, rfl⟩ rfl rfl rfl rfl rfl (by kernel_rfl) Try.func10 (by kernel_rfl)
    (of_decide_eq_true (by kernel_rfl)) (by unfold Func.isWrapper; first | (rw [if_pos (by decide +kernel)]; kernel_rfl) | (rw [if_neg (by decide +kernel)]; exact ⟨rfl, rfl⟩))
    (fun os started H enc _ => cutOnce_lifted os started H enc)
#print axioms cutOnce_holds
end Go.Proofs.Ytmocggibcniggaa.Kt
