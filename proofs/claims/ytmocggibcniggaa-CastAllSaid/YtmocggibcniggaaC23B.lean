/- Part of the proofs of this seat's statements: what the functions compute. No condition. -/
import Derived.Test.YtmocggibcniggaaC23A
set_option linter.unusedSimpArgs false
set_option linter.unusedVariables false
namespace Go.Proofs.Ytmocggibcniggaa.Kt
open Go Kw Go.Proofs
attribute [local irreducible] Kw.GI Kw.GR Kw.FnR Kw.FnX
set_option maxHeartbeats 8000000
set_option maxRecDepth 100000
abbrev hVs (l : List Vt) : Option (TypeId × List AV) := some (25, [rsV l])
abbrev hSl (k : Nat) : Option (TypeId × List AV) := some (29, [.sl k])
abbrev hRm (m : Mp) : Option (TypeId × List AV) := some (31, [.r (.rs 2 (m.vs.map Vt.row)), .r (.rs 6 (m.es.map Eg.row)), .r (.rs 4 (m.sb.map Sb.row)), .r (.rs 4 (m.sn.map Sn.row)), .r (.rs 1 (m.wl.map nRow))])
abbrev H6 (t : List Nd) (m : Mp) (ms : List Vt) : Hp := [hTt t, hMf m, hVs ms, hSl 0, hSl 1, hTt t]
abbrev F5 : Fr := [(3, .box 0 0), (4, .box 1 0), (5, .box 2 0), (7, .box 3 0), (8, .box 4 0)]
/-- The iterator, if its rounds keep Inv. -/
theorem iter_ok {l : Nat} {r : Loop} {t : List Nd} {m : Mp} {ms : List Vt} (hl : t.length < 1000000) (hps : r.params.size = 2) (Inv : Nat → List Int → List Int → Prop) (o d : List Int) (h0 : Inv t.length o d)
    (hrd : ∀ i np o d, t[i]? = some np → Inv (i + 1) o d → RdSpec Try.prog l r [I i, np.av] F5 (H6 t m ms) [eN o, eN d] (fun H S => H = H6 t m ms ∧ ∃ o' d', S = [eN o', eN d'] ∧ Inv i o' d')) :
    ItSpec Try.prog 81 l r [yieldA l, .box 5 0] F5 (H6 t m ms) [eN o, eN d] (fun H S => H = H6 t m ms ∧ ∃ o' d', S = [eN o', eN d'] ∧ Inv 0 o' d') := by
  refine it_intro (T := TT) (n := 19) Try.func81 rfl rfl rfl (fun w X hX hwl hf hsn => ?_)
  obtain ⟨xX, xZ, xY, xnb, xB⟩ := X
  have hX : xnb = 6 := hX
  subst hX
  (repeat (first | refine r_end ?_ | (refine r_op ?_; first | refine r_pure hT rfl rfl rfl rfl rfl rfl ?_ | refine r_load hT rfl rfl rfl rfl rfl rfl rfl rfl rfl ?_) | refine gi_seq ?_ | refine gi_plain ?_ | refine gi_block ?_))
  refine gi_loop (σ := Nat × (List Int × List Int)) (fun s => [(3, I ((s.1 : Int) - 1)), (0, yieldA l), (1, .box 5 0)]) (fun _ => H6 t m ms) (fun s => [eN s.2.1, eN s.2.2]) (fun s => s.1 ≤ t.length ∧ Inv s.1 s.2.1 s.2.2) (fun s => s.1) (t.length, (o, d)) ⟨Nat.le_refl _, h0⟩ ⟨?_, rfl, rfl, trivial⟩ ⟨rfl, rfl, rfl, rfl, rfl, rfl, trivial⟩ ⟨rfl, rfl, trivial⟩ (fun _ => rfl) (fun s hs next => ?_)
  · show some (I (wr .i64 ((((t.map Nd.row).length : Nat) : Int) - 1))) = _
    rw [List.length_map, wr_i64 (by omega) (by omega)]
  obtain ⟨i, o1, d1⟩ := s
  obtain ⟨hi, hI⟩ := hs
  simp only at hi hI
  (repeat (first | refine r_end ?_ | (refine r_op ?_; refine r_pure hT rfl rfl rfl rfl rfl rfl ?_) | refine gi_seq ?_ | refine gi_plain ?_))
  refine gi_le (p := 0) (q := (i : Int) - 1) rfl (fun h3 => ?_) (fun h3 => ?_)
  · obtain ⟨j, rfl⟩ : ∃ j, i = j + 1 := ⟨i - 1, by omega⟩
    obtain ⟨x, hx⟩ : ∃ x, t[j]? = some x := ⟨_, List.getElem?_eq_getElem (by omega)⟩
    have hj : (((j + 1 : Nat) : Int) - 1) = j := by omega
    refine gi_turn (d := 3) (y := I (j : Int)) rfl (by rw [hj]) ?_
    (repeat (first | (refine r_op ?_; first | refine r_pure hT rfl rfl rfl rfl rfl rfl ?_ | refine r_load hT rfl rfl rfl rfl rfl rfl rfl rfl rfl ?_) | refine gi_seq ?_ | refine gi_plain ?_ | refine gi_skip ?_ | refine gi_block ?_))
    refine r_thaw 13 rfl ?_
    refine r_idx (row := x.row) hT rfl rfl rfl rfl rfl rfl rfl rfl rfl rfl rfl rfl (by omega) (by simp [hx]) ?_
    (repeat ((refine r_op ?_; refine r_load hT rfl rfl rfl rfl rfl rfl rfl rfl rfl ?_)))
    refine r_yield (l := l) (r := r) (xs := [I (j : Int), x.av]) (Fs := F5) (Post := fun H S => H = H6 t m ms ∧ ∃ o' d', S = [eN o', eN d'] ∧ Inv j o' d') rfl rfl rfl rfl rfl rfl rfl rfl rfl (by rw [hps]; rfl) hwl hf hsn rfl (hrd j x o1 d1 hx hI) ?_
    rintro H1 S1 ⟨rfl, o2, d2, rfl, hI2⟩
    (repeat (first | refine r_end ?_ | (refine r_op ?_; refine r_pure hT rfl rfl rfl rfl rfl rfl ?_)))
    refine gi_known (d := 18) (b := false) rfl (by rw [notB_eq]; rfl) ?_
    (repeat (first | refine r_end ?_ | (refine r_op ?_; refine r_pure hT rfl rfl rfl rfl rfl rfl ?_) | refine gi_plain ?_ | refine gi_skip ?_ | refine gi_inBlock ?_ | (refine gi_cnd ?_; first | refine gi_true rfl ?_ | refine gi_false rfl ?_)))
    refine next (j, (o2, d2)) _ _ _ ⟨by simp only; omega, hI2⟩ (by simp only; omega) ⟨?_, rfl, rfl, trivial⟩ ⟨rfl, rfl, rfl, rfl, rfl, rfl, trivial⟩ ⟨rfl, rfl, trivial⟩
    show some (I (wr .i64 ((j : Int) - 1))) = _
    rw [wr_i64 (by omega) (by omega)]
  · have hi0 : i = 0 := by omega
    subst hi0
    (repeat (refine gi_exit rfl ?_))
    refine gi_finX hT Try.func81 rfl [0,1,2,3,4,5] [0,1] rfl rfl rfl rfl rfl rfl rfl rfl ?_
    exact ⟨rfl, _, _, rfl, hI⟩
end Go.Proofs.Ytmocggibcniggaa.Kt
