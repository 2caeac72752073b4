/- Part of the proofs of this seat's statements: what the functions compute. No condition. -/
import Derived.Test.YtlldjlhjbhkngaaC18M
set_option linter.unusedSimpArgs false
set_option linter.unusedVariables false
namespace Go.Proofs.Ytlldjlhjbhkngaa.Kt
open Go Kw Go.Proofs
attribute [local irreducible] Kw.GI Kw.GR Kw.FnR Kw.FnX
set_option maxHeartbeats 8000000
set_option maxRecDepth 100000
def btI (va vb : Vt) (a b : Nd) : Int := match notB (eqB (cmp3 a.c b.c) 0) with
  | true => cmp3 a.c b.c
  | false => match notB (decide (a.v = b.v)) with
    | true => aheadI a.v b.v
    | false => aheadI va vb
/-- A router, or a network. -/
def KindOk (v : Vt) : Prop := v.k = 1 ∨ v.k = 2
theorem ahead_first {a b : Vt} (ha : KindOk a) (hb : KindOk b) : ltB (aheadI a b) 0 = firstB a b := by
  unfold aheadI firstB KindOk at *
  simp only [orL, cmp3, ltB_eq, eqB_eq, notB_eq]
  rcases ha with ha | ha <;> rcases hb with hb | hb <;> rw [ha, hb] <;> simp [wr_i64] <;> (split <;> simp_all <;> (try split) <;> simp_all <;> omega)
end Go.Proofs.Ytlldjlhjbhkngaa.Kt
