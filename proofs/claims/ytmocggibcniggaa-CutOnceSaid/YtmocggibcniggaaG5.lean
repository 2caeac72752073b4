/- Part of the proofs of this seat's statements: what the functions compute. No condition. -/
import Derived.Test.YtmocggibcniggaaG4
import Derived.Test.YtmocggibcniggaaG2
import Derived.Test.YtmocggibcniggaaG3
import Derived.Test.YtmocggibcniggaaK4
set_option linter.unusedSimpArgs false
set_option linter.unusedVariables false
namespace Go.Proofs.Ytmocggibcniggaa.Kt
open Go Kw Go.Proofs
attribute [local irreducible] Kw.GI Kw.GR Kw.FnR Kw.FnX
set_option maxHeartbeats 16000000
set_option maxRecDepth 100000
theorem rReach_ok (t : List Nd) (m : Mp) (ms : List Vt) (hl : t.length < 1000000) (hw : m.wl.length < 1000000) (hms : ms.length < 1000000) (hkd : ∀ x ∈ t, x.v.k = 1 ∨ x.v.k = 2) : FnX Try.prog 24 [rsNd t, avMf m, rsV ms] [] [] (RReach t m ms) := by
  refine fnX_intro (T := TT) (n := 106) Try.func24 rfl rfl rfl (fun w X Z Y B => ?_)
  (repeat (first | refine r_end ?_ | (refine r_op ?_; first | refine r_pure hT rfl rfl rfl rfl rfl rfl ?_ | refine r_box rfl rfl rfl rfl rfl rfl rfl rfl rfl ?_) | refine gi_seq ?_ | refine gi_plain ?_))
  refine r_make (n := (t.length : Int)) hT rfl rfl rfl rfl rfl rfl rfl (by show some (I (((t.map Nd.row).length : Nat) : Int)) = _; rw [List.length_map]) (by show some (I (((t.map Nd.row).length : Nat) : Int)) = _; rw [List.length_map]) rfl rfl rfl rfl rfl rfl (by omega) ⟨by rw [Int.toNat_natCast]; simp only [maxLen]; omega, by rw [Int.toNat_natCast]; show 8 * t.length ≤ _; omega⟩ ?_
  (repeat (first | refine r_end ?_ | (refine r_op ?_; refine r_pure hT rfl rfl rfl rfl rfl rfl ?_) | refine gi_seq ?_ | refine gi_plain ?_ | refine gi_block ?_))
  have hrep : List.replicate (t.length : Int).toNat (zRow [Value.int IntKind.i64 0]) = (List.replicate t.length (0 : Int)).map nRow := by rw [Int.toNat_natCast, List.map_replicate]; rfl
  refine gi_loop (σ := Nat × List Int) (fun s => [(8, I ((s.1 : Int) - 1)), (7, .sl 0), (0, rsNd t), (2, rsV ms), (4, .box 0 0)]) (fun _ => [hMf m]) (fun s => [eN s.2]) (fun s => s.1 ≤ t.length ∧ PInv t m.wl ms s.1 s.2) (fun s => s.1) (t.length, List.replicate t.length 0) ⟨Nat.le_refl _, PInv.zero t m.wl ms⟩ ⟨?_, rfl, rfl, rfl, rfl, trivial⟩ ⟨rfl, trivial⟩ ⟨?_, trivial⟩ (fun _ => rfl) (fun s hs next => ?_)
  · show some (I (wr .i64 ((((t.map Nd.row).length : Nat) : Int) - 1))) = _
    rw [List.length_map, wr_i64 (by omega) (by omega)]
  · show eN (List.replicate t.length 0) = some (⟨_, _, List.replicate (t.length : Int).toNat (zRow [Value.int IntKind.i64 0]), _⟩ : SE)
    rw [hrep]
  obtain ⟨i0, o⟩ := s
  obtain ⟨hi0, hP⟩ := hs
  simp only at hi0 hP
  (repeat (first | refine r_end ?_ | (refine r_op ?_; refine r_pure hT rfl rfl rfl rfl rfl rfl ?_) | refine gi_seq ?_ | refine gi_plain ?_))
  refine gi_le (p := 0) (q := (i0 : Int) - 1) rfl (fun h3 => ?_) (fun h3 => ?_)
  · obtain ⟨i, rfl⟩ : ∃ j, i0 = j + 1 := ⟨i0 - 1, by omega⟩
    have hil : i < t.length := by omega
    obtain ⟨x, hx⟩ : ∃ x, t[i]? = some x := ⟨_, List.getElem?_eq_getElem hil⟩
    have hol := hP.lo
    have hxk := hkd x (List.mem_of_getElem? hx)
    have hj : (((i + 1 : Nat) : Int) - 1) = i := by omega
    refine gi_turn (d := 8) (y := I (i : Int)) rfl (by rw [hj]) ?_
    (repeat (first | refine r_end ?_ | (refine r_op ?_; refine r_pure hT rfl rfl rfl rfl rfl rfl ?_) | refine gi_seq ?_ | refine gi_plain ?_ | refine gi_skip ?_ | refine gi_block ?_))
    apply gi_cut (σ := Int) (fun e => [(9, I e), (8, I (i : Int)), (7, .sl 0), (0, rsNd t), (2, rsV ms), (4, .box 0 0)]) (fun _ => [hMf m]) (fun _ => [eN o]) (fun e => EInv t o i t.length x e) (fun _ => rfl)
    case first =>
      intro fin
      refine gi_loop (σ := Nat × Int) (fun s => [(10, I (s.1 : Int)), (9, I s.2), (8, I (i : Int)), (7, .sl 0), (0, rsNd t), (2, rsV ms), (4, .box 0 0)]) (fun _ => [hMf m]) (fun _ => [eN o]) (fun s => i + 1 ≤ s.1 ∧ s.1 ≤ t.length ∧ EInv t o i s.1 x s.2) (fun s => t.length - s.1) (i + 1, -1) ⟨Nat.le_refl _, hil, EInv.zero⟩ ⟨?_, rfl, rfl, rfl, rfl, rfl, rfl, trivial⟩ ⟨rfl, trivial⟩ ⟨rfl, trivial⟩ (fun _ => rfl) (fun s hs next2 => ?_)
      · show some (I (wr .i64 ((i : Int) + 1))) = _
        rw [wr_i64 (by omega) (by omega)]
        simp
      obtain ⟨k, e⟩ := s
      obtain ⟨hk1, hk2, hE⟩ := hs
      simp only at hk1 hk2 hE
      (repeat (first | refine r_end ?_ | (refine r_op ?_; refine r_pure hT rfl rfl rfl rfl rfl rfl ?_) | refine gi_seq ?_ | refine gi_plain ?_))
      refine gi_lt (p := (k : Int)) (q := ((t.map Nd.row).length : Int)) rfl (fun h4 => ?_) (fun h4 => ?_)
      · rw [List.length_map] at h4
        have hkl : k < t.length := by omega
        obtain ⟨n, hn⟩ : ∃ m, t[k]? = some m := ⟨_, List.getElem?_eq_getElem hkl⟩
        obtain ⟨y, hy⟩ : ∃ y, o[k]? = some y := ⟨_, List.getElem?_eq_getElem (by omega)⟩
        have hyr := hP.rng k y (by omega) hy
        have hcb := cR_b x n
        have on : ∀ e', EInv t o i (k + 1) x e' → ∀ F1 H1 S1, SubF [(10, I (wr .i64 ((k : Int) + 1))), (9, I e'), (8, I (i : Int)), (7, .sl 0), (0, rsNd t), (2, rsV ms), (4, .box 0 0)] F1 → SubH [hMf m] H1 → SubS [eN o] S1 → GI _ _ F1 H1 S1 := fun e' he' F1 H1 S1 hF hH hS => by
          refine next2 (k + 1, e') F1 H1 S1 ⟨by simp only; omega, by simp only; omega, he'⟩ (by simp only; omega) ?_ hH hS
          rw [wr_i64 (by omega) (by omega)] at hF
          simpa using hF
        clear next2
        (repeat (first | (refine r_op ?_; refine r_pure hT rfl rfl rfl rfl rfl rfl ?_) | refine gi_seq ?_ | refine gi_plain ?_ | refine gi_skip ?_ | refine gi_block ?_))
        refine r_idx (row := n.row) hT rfl rfl rfl rfl rfl rfl rfl rfl rfl rfl rfl rfl (by show (0 : Int) ≤ (k : Int); omega) (by simp [hn]) ?_
        (repeat ((refine r_op ?_; first | refine r_pure hT rfl rfl rfl rfl rfl rfl ?_ | refine r_load hT rfl rfl rfl rfl rfl rfl rfl rfl rfl ?_)))
        refine r_case (d := 37) rfl (fun c1 => ?_) (fun c1 => ?_)
        · (repeat (first | refine r_end ?_ | (refine r_op ?_; first | refine r_pure hT rfl rfl rfl rfl rfl rfl ?_ | refine r_off rfl rfl rfl rfl rfl ?_) | refine gi_plain ?_ | refine gi_exit rfl ?_ | (refine gi_cnd ?_; first | refine gi_true rfl ?_ | refine gi_false rfl ?_)))
          exact on e (hE.skip hn hy (.inl (fun h => by rw [notB_eq, eqB_eq, h] at c1; simp at c1))) _ _ _ ⟨rfl, rfl, rfl, rfl, rfl, rfl, rfl, trivial⟩ ⟨rfl, trivial⟩ ⟨rfl, trivial⟩
        have hp : n.p = i := by
          rw [notB_eq, eqB_eq] at c1
          simpa using c1
        (repeat ((refine r_op ?_; refine r_pure hT rfl rfl rfl rfl rfl rfl ?_)))
        refine r_idxS hT rfl rfl rfl rfl rfl rfl rfl rfl rfl rfl rfl rfl rfl (by show (0 : Int) ≤ (k : Int); omega) (by show ((k : Nat) : Int).toNat < (o.map nRow).length; rw [List.length_map]; omega) ?_
        skip
        refine r_loadS (row := nRow y) hT rfl rfl rfl rfl rfl rfl rfl rfl (by show (o.map nRow)[((k : Nat) : Int).toNat]? = _; rw [Int.toNat_natCast, List.getElem?_map, hy]; rfl) rfl rfl rfl ?_
        (repeat (first | refine r_end ?_ | (refine r_op ?_; refine r_pure hT rfl rfl rfl rfl rfl rfl ?_)))
        refine gi_lt (p := y) (q := 0) rfl (fun h5 => ?_) (fun h5 => ?_)
        · (repeat (first | refine r_end ?_ | (refine r_op ?_; refine r_pure hT rfl rfl rfl rfl rfl rfl ?_) | refine gi_plain ?_ | refine gi_exit rfl ?_))
          exact on e (hE.skip hn hy (.inr h5)) _ _ _ ⟨rfl, rfl, rfl, rfl, rfl, rfl, rfl, trivial⟩ ⟨rfl, trivial⟩ ⟨rfl, trivial⟩
        (repeat (first | (refine r_op ?_; refine r_pure hT rfl rfl rfl rfl rfl rfl ?_) | refine gi_seq ?_ | refine gi_plain ?_ | refine gi_skip ?_))
        refine r_idxS hT rfl rfl rfl rfl rfl rfl rfl rfl rfl rfl rfl rfl rfl (by show (0 : Int) ≤ (k : Int); omega) (by show ((k : Nat) : Int).toNat < (o.map nRow).length; rw [List.length_map]; omega) ?_
        skip
        refine r_loadS (row := nRow y) hT rfl rfl rfl rfl rfl rfl rfl rfl (by show (o.map nRow)[((k : Nat) : Int).toNat]? = _; rw [Int.toNat_natCast, List.getElem?_map, hy]; rfl) rfl rfl rfl ?_
        (repeat (first | refine r_end ?_ | (refine r_op ?_; refine r_pure hT rfl rfl rfl rfl rfl rfl ?_) | refine gi_seq ?_))
        apply gi_cut (σ := Unit) (fun _ => [(11, I (y + cR x n)), (10, I (k : Int)), (9, I e), (8, I (i : Int)), (7, .sl 0), (0, rsNd t), (2, rsV ms), (4, .box 0 0)]) (fun _ => [hMf m]) (fun _ => [eN o]) (fun _ => True) (fun _ => rfl)
        case first =>
          intro fin2
          (repeat (first | (refine r_op ?_; refine r_pure hT rfl rfl rfl rfl rfl rfl ?_) | refine gi_plain ?_))
          refine r_idx (row := x.row) hT rfl rfl rfl rfl rfl rfl rfl rfl rfl rfl rfl rfl (by show (0 : Int) ≤ (i : Int); omega) (by simp [hx]) ?_
          (repeat ((refine r_op ?_; first | refine r_pure hT rfl rfl rfl rfl rfl rfl ?_ | refine r_load hT rfl rfl rfl rfl rfl rfl rfl rfl rfl ?_)))
          refine r_case (d := 55) rfl (fun d1 => ?_) (fun d1 => ?_)
          · have hc : cR x n = 1 := if_pos (.inl (by rw [eqB_eq] at d1; exact of_decide_eq_true d1))
            (repeat (first | refine r_end ?_ | (refine r_op ?_; first | refine r_pure hT rfl rfl rfl rfl rfl rfl ?_ | refine r_off rfl rfl rfl rfl rfl ?_) | refine gi_seq ?_ | refine gi_plain_ne 13 rfl ?_ | (refine gi_cnd ?_; first | refine gi_true rfl ?_ | refine gi_false rfl ?_)))
            exact fin2 () _ _ _ trivial ⟨by show some (I _) = some (I (y + cR x n)); rw [hc, wr_i64 (by omega) (by omega)], rfl, rfl, rfl, rfl, rfl, rfl, rfl, trivial⟩ ⟨rfl, trivial⟩ ⟨rfl, trivial⟩
          · have d1 : x.v.k ≠ 2 := by rw [eqB_eq] at d1; exact of_decide_eq_false d1
            (repeat ((refine r_op ?_; refine r_pure hT rfl rfl rfl rfl rfl rfl ?_)))
            refine r_idx (row := n.row) hT rfl rfl rfl rfl rfl rfl rfl rfl rfl rfl rfl rfl (by show (0 : Int) ≤ (k : Int); omega) (by simp [hn]) ?_
            (repeat (first | refine r_end ?_ | (refine r_op ?_; first | refine r_pure hT rfl rfl rfl rfl rfl rfl ?_ | refine r_load hT rfl rfl rfl rfl rfl rfl rfl rfl rfl ?_)))
            refine gi_eq (p := n.v.k) (q := 1) rfl (fun d2 => ?_) (fun d2 => ?_)
            · have hc : cR x n = 1 := if_pos (.inr d2)
              (repeat (first | refine r_end ?_ | (refine r_op ?_; refine r_pure hT rfl rfl rfl rfl rfl rfl ?_) | refine gi_seq ?_ | refine gi_plain_ne 13 rfl ?_))
              exact fin2 () _ _ _ trivial ⟨by show some (I _) = some (I (y + cR x n)); rw [hc, wr_i64 (by omega) (by omega)], rfl, rfl, rfl, rfl, rfl, rfl, rfl, trivial⟩ ⟨rfl, trivial⟩ ⟨rfl, trivial⟩
            · have hc : cR x n = 0 := if_neg (fun h => by rcases h with h | h <;> contradiction)
              (repeat (first | refine gi_seq ?_ | refine gi_skip ?_))
              exact fin2 () _ _ _ trivial ⟨by show some (I _) = some (I (y + cR x n)); rw [hc, Int.add_zero], rfl, rfl, rfl, rfl, rfl, rfl, rfl, trivial⟩ ⟨rfl, trivial⟩ ⟨rfl, trivial⟩
        case after =>
          intro _ _
          have hadd := hE.add (by omega) hn hy hp (by omega)
          (repeat (first | (refine r_op ?_; refine r_pure hT rfl rfl rfl rfl rfl rfl ?_) | refine gi_plain ?_))
          refine r_case (d := 68) rfl (fun g1 => ?_) (fun g1 => ?_)
          · rw [ltB_eq] at g1
            have g1 := of_decide_eq_true g1
            rw [if_pos (.inl g1)] at hadd
            (repeat (first | refine r_end ?_ | (refine r_op ?_; first | refine r_pure hT rfl rfl rfl rfl rfl rfl ?_ | refine r_off rfl rfl rfl rfl rfl ?_) | refine gi_plain ?_ | refine gi_inBlock ?_ | (refine gi_cnd ?_; first | refine gi_true rfl ?_ | refine gi_false rfl ?_)))
            exact on _ hadd _ _ _ ⟨rfl, rfl, rfl, rfl, rfl, rfl, rfl, trivial⟩ ⟨rfl, trivial⟩ ⟨rfl, trivial⟩
          · rw [ltB_eq] at g1
            have g1 := of_decide_eq_false g1
            (repeat (first | refine r_end ?_ | (refine r_op ?_; refine r_pure hT rfl rfl rfl rfl rfl rfl ?_)))
            refine gi_lt (p := y + cR x n) (q := e) rfl (fun g2 => ?_) (fun g2 => ?_)
            · rw [if_pos (.inr g2)] at hadd
              (repeat (first | refine r_end ?_ | (refine r_op ?_; refine r_pure hT rfl rfl rfl rfl rfl rfl ?_) | refine gi_plain ?_ | refine gi_inBlock ?_))
              exact on _ hadd _ _ _ ⟨rfl, rfl, rfl, rfl, rfl, rfl, rfl, trivial⟩ ⟨rfl, trivial⟩ ⟨rfl, trivial⟩
            · rw [if_neg (fun h => by rcases h with h | h <;> contradiction)] at hadd
              (repeat (first | refine r_end ?_ | (refine r_op ?_; refine r_pure hT rfl rfl rfl rfl rfl rfl ?_) | refine gi_plain ?_ | refine gi_skip ?_ | refine gi_inBlock ?_))
              exact on _ hadd _ _ _ ⟨rfl, rfl, rfl, rfl, rfl, rfl, rfl, trivial⟩ ⟨rfl, trivial⟩ ⟨rfl, trivial⟩
      · rw [List.length_map] at h4
        have hkl : k = t.length := by omega
        subst hkl
        clear next2
        (repeat (first | refine gi_seq ?_ | refine gi_block ?_ | refine gi_exit rfl ?_))
        exact fin e _ _ _ hE ⟨rfl, rfl, rfl, rfl, rfl, rfl, trivial⟩ ⟨rfl, trivial⟩ ⟨rfl, trivial⟩
    case after =>
    intro e hE
    have hst := hP.step hx hxk hE
    apply gi_cut (σ := Unit) (fun _ => [(9, I (valP m.wl ms x e)), (8, I (i : Int)), (7, .sl 0), (0, rsNd t), (2, rsV ms), (4, .box 0 0)]) (fun _ => [hMf m]) (fun _ => [eN o]) (fun _ => True) (fun _ => rfl)
    case first =>
      intro fin3
      refine gi_drawM [] [(0, .p), (1, .p), (2, .p), (3, .p), (4, .p), (5, .t), (6, .p), (7, .p), (8, .p), (10, .p), (11, .p), (12, .p), (13, .p), (14, .p), (9, .t), (15, .t), (16, .o), (17, .p), (18, .p)] [0, 0, 3, 4, 8, 16, 32, 64, 128, 384, 128, 128, 3200, 4224, 8320, 16512, 33408, 65664, 196608] [0, 0, 3, 4, 8, 16, 32, 64, 128, 384, 128, 128, 3200, 4224, 8320, 16512, 33408, 65664, 131072] hm rfl (by kernel_rfl) (fun w1 K => ?_)
      (repeat ((refine r_op ?_; refine r_pure hT rfl rfl rfl rfl rfl rfl ?_)))
      refine r_idx (row := x.row) hT rfl rfl rfl rfl rfl rfl rfl rfl rfl rfl rfl rfl (by show (0 : Int) ≤ (i : Int); omega) (by simp [hx]) ?_
      (repeat ((refine r_op ?_; first | refine r_pure hT rfl rfl rfl rfl rfl rfl ?_ | refine r_load hT rfl rfl rfl rfl rfl rfl rfl rfl rfl ?_)))
      refine r_case (d := 82) rfl (fun w1 => ?_) (fun w1 => ?_)
      · have hk1 : x.v.k = 1 := by rw [eqB_eq] at w1; exact of_decide_eq_true w1
        (repeat ((refine r_op ?_; refine r_pure hT rfl rfl rfl rfl rfl rfl ?_)))
        refine r_idx (row := x.row) hT rfl rfl rfl rfl rfl rfl rfl rfl rfl rfl rfl rfl (by show (0 : Int) ≤ (i : Int); omega) (by simp [hx]) ?_
        (repeat ((refine r_op ?_; first | refine r_pure hT rfl rfl rfl rfl rfl rfl ?_ | refine r_load hT rfl rfl rfl rfl rfl rfl rfl rfl rfl ?_)))
        refine r_thaw 84 rfl ?_
        refine r_call (Has_ok m.wl x.v.i hw) rfl rfl rfl rfl rfl rfl rfl rfl Try.func57 rfl rfl rfl pB ?_
        rintro r2 S2 ⟨rfl, rfl⟩
        (repeat (first | refine r_end ?_ | (refine r_op ?_; refine r_pure hT rfl rfl rfl rfl rfl rfl ?_)))
        refine gi_cond rfl (fun hwd => ?_) (fun hwd => ?_)
        · have hw1 : isW m.wl x = true := by unfold isW; rw [← contains_any, hwd, decide_eq_true hk1]; rfl
          (repeat (first | refine r_end ?_ | (refine r_op ?_; refine r_pure hT rfl rfl rfl rfl rfl rfl ?_) | refine gi_plain_ne 19 rfl ?_ | refine gi_inBlock ?_))
          exact fin3 () _ _ _ trivial ⟨by show some (I _) = some (I (valP m.wl ms x e)); unfold valP; rw [if_pos hw1], rfl, rfl, rfl, rfl, rfl, trivial⟩ ⟨rfl, trivial⟩ ⟨rfl, trivial⟩
        · have hw0 : isW m.wl x = false := by unfold isW; rw [← contains_any, hwd, Bool.and_false]
          (repeat (first | (refine r_op ?_; refine r_pure hT rfl rfl rfl rfl rfl rfl ?_) | refine gi_seq ?_ | refine gi_plain ?_))
          refine r_idx (row := x.row) hT rfl rfl rfl rfl rfl rfl rfl rfl rfl rfl rfl rfl (by show (0 : Int) ≤ (i : Int); omega) (by simp [hx]) ?_
          (repeat ((refine r_op ?_; first | refine r_pure hT rfl rfl rfl rfl rfl rfl ?_ | refine r_load hT rfl rfl rfl rfl rfl rfl rfl rfl rfl ?_)))
          refine r_call (in17_ok ms x.v hms) rfl rfl rfl rfl rfl rfl rfl rfl Try.func58 rfl rfl rfl pB ?_
          rintro r3 S3 ⟨rfl, rfl⟩
          (repeat (first | refine r_end ?_ | (refine r_op ?_; refine r_pure hT rfl rfl rfl rfl rfl rfl ?_)))
          refine gi_cond rfl (fun hmb => ?_) (fun hmb => ?_)
          · have hmb : isMb ms x = true := hmb
            (repeat (first | refine r_end ?_ | (refine r_op ?_; refine r_pure hT rfl rfl rfl rfl rfl rfl ?_) | refine gi_plain_ne 19 rfl ?_ | refine gi_inBlock ?_))
            exact fin3 () _ _ _ trivial ⟨by show some (I _) = some (I (valP m.wl ms x e)); unfold valP; rw [if_neg (by rw [hw0]; decide), if_pos hmb], rfl, rfl, rfl, rfl, rfl, trivial⟩ ⟨rfl, trivial⟩ ⟨rfl, trivial⟩
          · have hmb : isMb ms x = false := hmb
            (repeat (first | refine gi_skip ?_ | refine gi_inBlock ?_))
            exact fin3 () _ _ _ trivial ⟨by show some (I _) = some (I (valP m.wl ms x e)); unfold valP; rw [if_neg (by rw [hw0]; decide), if_neg (by rw [hmb]; decide)], rfl, rfl, rfl, rfl, rfl, trivial⟩ ⟨rfl, trivial⟩ ⟨rfl, trivial⟩
      · have hk1 : x.v.k ≠ 1 := by rw [eqB_eq] at w1; exact of_decide_eq_false w1
        have hw0 : isW m.wl x = false := by unfold isW; rw [decide_eq_false hk1]; rfl
        (repeat (first | refine r_end ?_ | (refine r_op ?_; first | refine r_pure hT rfl rfl rfl rfl rfl rfl ?_ | refine r_off rfl rfl rfl rfl rfl ?_) | refine gi_seq ?_ | refine gi_plain ?_ | (refine gi_cnd ?_; first | refine gi_true rfl ?_ | refine gi_false rfl ?_)))
        refine r_idx (row := x.row) hT rfl rfl rfl rfl rfl rfl rfl rfl rfl rfl rfl rfl (by show (0 : Int) ≤ (i : Int); omega) (by simp [hx]) ?_
        (repeat ((refine r_op ?_; first | refine r_pure hT rfl rfl rfl rfl rfl rfl ?_ | refine r_load hT rfl rfl rfl rfl rfl rfl rfl rfl rfl ?_)))
        refine r_call (in17_ok ms x.v hms) rfl rfl rfl rfl rfl rfl rfl rfl Try.func58 rfl rfl rfl pB ?_
        rintro r3 S3 ⟨rfl, rfl⟩
        (repeat (first | refine r_end ?_ | (refine r_op ?_; refine r_pure hT rfl rfl rfl rfl rfl rfl ?_)))
        refine gi_cond rfl (fun hmb => ?_) (fun hmb => ?_)
        · have hmb : isMb ms x = true := hmb
          (repeat (first | refine r_end ?_ | (refine r_op ?_; refine r_pure hT rfl rfl rfl rfl rfl rfl ?_) | refine gi_plain_ne 19 rfl ?_ | refine gi_inBlock ?_))
          exact fin3 () _ _ _ trivial ⟨by show some (I _) = some (I (valP m.wl ms x e)); unfold valP; rw [if_neg (by rw [hw0]; decide), if_pos hmb], rfl, rfl, rfl, rfl, rfl, trivial⟩ ⟨rfl, trivial⟩ ⟨rfl, trivial⟩
        · have hmb : isMb ms x = false := hmb
          (repeat (first | refine gi_skip ?_ | refine gi_inBlock ?_))
          exact fin3 () _ _ _ trivial ⟨by show some (I _) = some (I (valP m.wl ms x e)); unfold valP; rw [if_neg (by rw [hw0]; decide), if_neg (by rw [hmb]; decide)], rfl, rfl, rfl, rfl, rfl, trivial⟩ ⟨rfl, trivial⟩ ⟨rfl, trivial⟩
    case after =>
    intro _ _
    (repeat (first | (refine r_op ?_; refine r_pure hT rfl rfl rfl rfl rfl rfl ?_) | refine gi_plain ?_))
    refine r_idxS hT rfl rfl rfl rfl rfl rfl rfl rfl rfl rfl rfl rfl rfl (by show (0 : Int) ≤ (i : Int); omega) (by show ((i : Nat) : Int).toNat < (o.map nRow).length; rw [List.length_map]; omega) ?_
    skip
    refine r_storeS (row := nRow (o[i]'(by omega))) hT rfl rfl rfl rfl rfl rfl rfl rfl rfl rfl rfl rfl rfl (by show (List.map nRow _)[((i : Nat) : Int).toNat]? = _; rw [Int.toNat_natCast, List.getElem?_map, List.getElem?_eq_getElem (by omega)]; rfl) ?_
    (repeat (first | refine r_end ?_ | (refine r_op ?_; refine r_pure hT rfl rfl rfl rfl rfl rfl ?_) | refine gi_plain ?_ | refine gi_inBlock ?_))
    refine next (i, o.set i (valP m.wl ms x e)) _ _ _ ⟨by simp only; omega, hst⟩ (by simp only; omega) ⟨?_, rfl, rfl, rfl, rfl, trivial⟩ ⟨rfl, trivial⟩ ⟨?_, trivial⟩
    · show some (I (wr .i64 ((i : Int) - 1))) = _
      rw [wr_i64 (by omega) (by omega)]
    · show eN (o.set i (valP m.wl ms x e)) = some (⟨_, _, (o.map nRow).set ((i : Nat) : Int).toNat (nRow (valP m.wl ms x e)), _⟩ : SE)
      rw [Int.toNat_natCast, ← List.map_set]
  · have hi00 : i0 = 0 := by omega
    subst hi00
    (repeat (first | refine r_end ?_ | (refine r_op ?_; refine r_pure hT rfl rfl rfl rfl rfl rfl ?_) | refine gi_seq ?_ | refine gi_plain ?_ | refine gi_exit rfl ?_))
    refine gi_retX hT Try.func24 rfl [] [0] rfl rfl rfl rfl rfl rfl rfl rfl ?_
    exact ⟨rfl, rfl, o, rfl, hP.rch⟩
end Go.Proofs.Ytmocggibcniggaa.Kt
namespace Go.Proofs.Ytmocggibcniggaa.Kt
open Go Kw Go.Proofs
theorem pTreeLC (l : List Ls) (root : Vt) (h : Few l) : FnR Try.prog 49 [avMf (mapL l), root.av] (RT1 (refTree (mapL l) root)) := pTreeL l root h
end Go.Proofs.Ytmocggibcniggaa.Kt
namespace Go.Proofs.Ytmocggibcniggaa.Kt
open Go Kw Go.Proofs
attribute [local irreducible] Kw.GI Kw.GR Kw.FnR Kw.FnX
set_option maxHeartbeats 8000000
set_option maxRecDepth 100000
/-- The tree from where an address is. -/
def castT (m : Mp) (s : Src) : List Nd := if s.ok = true then refTree m s.v else []
theorem rCast_ok (l : List Ls) (hf : Few l) (a : Int) (h1 : (mapL l).sn.length < 1000000) (h2 : (mapL l).sb.length < 100000000) : FnX Try.prog 19 [avMf (mapL l), I a] [] [] (RV1 (eNd (castT (mapL l) (xrcF a (mapL l)).told))) := by
  refine fnX_intro (T := TT) (n := 22) Try.func19 rfl rfl rfl (fun w X Z Y B => ?_)
  (repeat (first | refine r_end ?_ | (refine r_op ?_; first | refine r_pure hT rfl rfl rfl rfl rfl rfl ?_ | refine r_load hT rfl rfl rfl rfl rfl rfl rfl rfl rfl ?_ | refine r_box rfl rfl rfl rfl rfl rfl rfl rfl rfl ?_) | refine gi_seq ?_ | refine gi_plain ?_))
  refine r_call (rSource_ok (mapL l) a h1 h2) rfl rfl rfl rfl rfl rfl rfl rfl Try.func17 rfl rfl rfl pSrc ?_
  rintro r S1 ⟨rfl, rfl⟩
  generalize (xrcF a (mapL l)).told = s
  (repeat (first | refine r_end ?_ | (refine r_op ?_; first | refine r_pure hT rfl rfl rfl rfl rfl rfl ?_ | refine r_store hT rfl rfl rfl rfl rfl rfl rfl rfl rfl rfl ?_ | refine r_alloc hT rfl rfl rfl rfl rfl rfl rfl rfl rfl ?_) | refine gi_seq ?_ | refine gi_plain ?_))
  refine gi_cond rfl (fun c1 => ?_) (fun c1 => ?_)
  · rw [notB_eq, Bool.not_eq_true'] at c1
    (repeat (first | refine r_end ?_ | (refine r_op ?_; refine r_pure hT rfl rfl rfl rfl rfl rfl ?_) | refine gi_seq ?_ | refine gi_plain ?_))
    refine gi_adopt (e := 58) (sz := 5) 4 rfl ?_
    refine gi_retX hT Try.func19 rfl [] [0] rfl rfl rfl rfl rfl rfl rfl rfl ?_
    refine ⟨rfl, rfl, ?_⟩
    unfold castT
    rw [if_neg (by rw [c1]; decide)]
    rfl
  · rw [notB_eq, Bool.not_eq_false'] at c1
    (repeat (first | (refine r_op ?_; refine r_load hT rfl rfl rfl rfl rfl rfl rfl rfl rfl ?_) | refine gi_seq ?_ | refine gi_plain ?_ | refine gi_skip ?_))
    refine r_call (rTreeL l s.v hf) rfl rfl rfl rfl rfl rfl rfl rfl Try.func50 rfl rfl rfl pT1 ?_
    rintro r S1 ⟨rfl, rfl⟩
    (repeat (first | refine r_end ?_ | (refine r_op ?_; refine r_pure hT rfl rfl rfl rfl rfl rfl ?_)))
    refine gi_retX hT Try.func19 rfl [] [0] rfl rfl rfl rfl rfl rfl rfl rfl ?_
    refine ⟨rfl, rfl, ?_⟩
    unfold castT
    rw [if_pos c1]
theorem pTreeC_ok (l : List Ls) (hf : Few l) (a : Int) (h1 : (mapL l).sn.length < 1000000) (h2 : (mapL l).sb.length < 100000000) : FnX Try.prog 18 [avMf (mapL l), I a] [] [] (RV1 (eNd (castT (mapL l) (srcF a (mapL l))))) := by
  refine fnX_intro (T := TT) (n := 22) Try.func18 rfl rfl rfl (fun w X Z Y B => ?_)
  (repeat (first | refine r_end ?_ | (refine r_op ?_; first | refine r_pure hT rfl rfl rfl rfl rfl rfl ?_ | refine r_load hT rfl rfl rfl rfl rfl rfl rfl rfl rfl ?_ | refine r_box rfl rfl rfl rfl rfl rfl rfl rfl rfl ?_) | refine gi_seq ?_ | refine gi_plain ?_))
  refine r_call (pSource_ok (mapL l) a h1 h2) rfl rfl rfl rfl rfl rfl rfl rfl Try.func16 rfl rfl rfl pSrc ?_
  rintro r S1 ⟨rfl, rfl⟩
  generalize srcF a (mapL l) = s
  (repeat (first | refine r_end ?_ | (refine r_op ?_; first | refine r_pure hT rfl rfl rfl rfl rfl rfl ?_ | refine r_store hT rfl rfl rfl rfl rfl rfl rfl rfl rfl rfl ?_ | refine r_alloc hT rfl rfl rfl rfl rfl rfl rfl rfl rfl ?_) | refine gi_seq ?_ | refine gi_plain ?_))
  refine gi_cond rfl (fun c1 => ?_) (fun c1 => ?_)
  · rw [notB_eq, Bool.not_eq_true'] at c1
    (repeat (first | refine r_end ?_ | (refine r_op ?_; refine r_pure hT rfl rfl rfl rfl rfl rfl ?_) | refine gi_seq ?_ | refine gi_plain ?_))
    refine gi_adopt (e := 58) (sz := 5) 4 rfl ?_
    refine gi_retX hT Try.func18 rfl [] [0] rfl rfl rfl rfl rfl rfl rfl rfl ?_
    refine ⟨rfl, rfl, ?_⟩
    unfold castT
    rw [if_neg (by rw [c1]; decide)]
    rfl
  · rw [notB_eq, Bool.not_eq_false'] at c1
    (repeat (first | (refine r_op ?_; refine r_load hT rfl rfl rfl rfl rfl rfl rfl rfl rfl ?_) | refine gi_seq ?_ | refine gi_plain ?_ | refine gi_skip ?_))
    refine r_call (pTreeLC l s.v hf) rfl rfl rfl rfl rfl rfl rfl rfl Try.func49 rfl rfl rfl pT1 ?_
    rintro r S1 ⟨rfl, rfl⟩
    (repeat (first | refine r_end ?_ | (refine r_op ?_; refine r_pure hT rfl rfl rfl rfl rfl rfl ?_)))
    refine gi_retX hT Try.func18 rfl [] [0] rfl rfl rfl rfl rfl rfl rfl rfl ?_
    refine ⟨rfl, rfl, ?_⟩
    unfold castT
    rw [if_pos c1]
end Go.Proofs.Ytmocggibcniggaa.Kt
namespace Go.Proofs.Ytmocggibcniggaa.Kt
open Go Kw Go.Proofs
set_option maxHeartbeats 4000000
set_option maxRecDepth 100000
/-! ### routers that want all groups: the law -/
section
variable {t : List Nd} {W : List Int} {ms : List Vt} {a b c : List Int}
theorem wild_k {n : Nd} (h : n.v.k ≠ 1) : isW W n = false := by unfold isW; rw [decide_eq_false h]; rfl
/-- Who does not want all is at one at the least. -/
theorem Rch.one' (h : Rch t W ms a) : ∀ (j k : Nat) (n : Nd) (x : Int), t.length - k ≤ j → t[k]? = some n → a[k]? = some x → isW W n = false → 0 ≤ x → 1 ≤ x
  | 0, k, n, x, hj, hn, _, _, _ => by have := (List.getElem?_eq_some_iff.1 hn).1; omega
  | j + 1, k, n, x, hj, hn, hx, hw, h0 => by
    have hv := h.at_ k n x hn hx
    cases hm : isMb ms n with
    | true => rw [hv.me hw hm]; omega
    | false =>
      obtain ⟨k', m, y, hk, hm', _, hy, hy0, rfl⟩ := hv.or hw hm h0
      have h1 := cK_b n m
      have h2 := cP_b n
      by_cases hk1 : n.v.k = 1
      · by_cases hm1 : m.v.k = 1
        · have : cK n m = 1 := if_pos ⟨hm1, hk1⟩
          omega
        · have := Rch.one' h j k' m y (by omega) hm' hy (wild_k hm1) hy0
          omega
      · have : cP n = 1 := if_neg hk1
        omega
theorem Rch.more (ha : Rch t [] ms a) (hb : Rch t W ms b) : ∀ (j k : Nat) (n : Nd) (x y : Int), t.length - k ≤ j → t[k]? = some n → a[k]? = some x → b[k]? = some y → 0 ≤ x → 0 ≤ y ∧ y ≤ x
  | 0, k, n, x, y, hj, hn, _, _, _ => by have := (List.getElem?_eq_some_iff.1 hn).1; omega
  | j + 1, k, n, x, y, hj, hn, hx, hy, h0 => by
    have va := ha.at_ k n x hn hx
    have vb := hb.at_ k n y hn hy
    cases hw : isW W n with
    | true => rw [vb.wi hw]; omega
    | false =>
      cases hm : isMb ms n with
      | true => rw [vb.me hw hm, va.me (isW_nil n) hm]; omega
      | false =>
        obtain ⟨k', m, x', hk, hm', hp, hx', hx0, rfl⟩ := va.or (isW_nil n) hm h0
        obtain ⟨y', hy'⟩ : ∃ y', b[k']? = some y' := ⟨_, List.getElem?_eq_getElem (by rw [hb.lo]; exact (List.getElem?_eq_some_iff.1 hm').1)⟩
        obtain ⟨q1, q2⟩ := Rch.more ha hb j k' m x' y' (by omega) hm' hx' hy' hx0
        have := vb.le hw hm k' m y' hk hm' hp hy' q1
        omega
theorem Rch.mem (hc : Rch t W [] c) (hb : Rch t W ms b) : ∀ (j k : Nat) (n : Nd) (x y : Int), t.length - k ≤ j → t[k]? = some n → c[k]? = some x → b[k]? = some y → 0 ≤ x → 0 ≤ y ∧ y ≤ x
  | 0, k, n, x, y, hj, hn, _, _, _ => by have := (List.getElem?_eq_some_iff.1 hn).1; omega
  | j + 1, k, n, x, y, hj, hn, hx, hy, h0 => by
    have vc := hc.at_ k n x hn hx
    have vb := hb.at_ k n y hn hy
    cases hw : isW W n with
    | true => rw [vb.wi hw]; omega
    | false =>
      have h1 := hc.one' t.length k n x (by omega) hn hx hw h0
      cases hm : isMb ms n with
      | true => rw [vb.me hw hm]; omega
      | false =>
        obtain ⟨k', m, x', hk, hm', hp, hx', hx0, rfl⟩ := vc.or hw rfl h0
        obtain ⟨y', hy'⟩ : ∃ y', b[k']? = some y' := ⟨_, List.getElem?_eq_getElem (by rw [hb.lo]; exact (List.getElem?_eq_some_iff.1 hm').1)⟩
        obtain ⟨q1, q2⟩ := Rch.mem hc hb j k' m x' y' (by omega) hm' hx' hy' hx0
        have := vb.le hw hm k' m y' hk hm' hp hy' q1
        omega
theorem Rch.same (ha : Rch t [] ms a) (hb : Rch t W ms b) (hc : Rch t W [] c) : ∀ (j k : Nat) (n : Nd) (x y z : Int), t.length - k ≤ j → t[k]? = some n → a[k]? = some x → b[k]? = some y → c[k]? = some z → x < 0 → y = z
  | 0, k, n, x, y, z, hj, hn, _, _, _, _ => by have := (List.getElem?_eq_some_iff.1 hn).1; omega
  | j + 1, k, n, x, y, z, hj, hn, hx, hy, hz, h0 => by
    have va := ha.at_ k n x hn hx
    have vb := hb.at_ k n y hn hy
    have vc := hc.at_ k n z hn hz
    cases hw : isW W n with
    | true => rw [vb.wi hw, vc.wi hw]
    | false =>
      cases hm : isMb ms n with
      | true => have := va.me (isW_nil n) hm; omega
      | false =>
        have kid : ∀ (k' : Nat) (m : Nd) (y' z' : Int), k < k' → t[k']? = some m → m.p = k → b[k']? = some y' → c[k']? = some z' → y' = z' := fun k' m y' z' hk hm' hp hy' hz' => by
          obtain ⟨x', hx'⟩ : ∃ x', a[k']? = some x' := ⟨_, List.getElem?_eq_getElem (by rw [ha.lo]; exact (List.getElem?_eq_some_iff.1 hm').1)⟩
          refine Rch.same ha hb hc j k' m x' y' z' (by omega) hm' hx' hy' hz' ?_
          refine Int.not_le.1 (fun h => ?_)
          have := (va.le (isW_nil n) hm k' m x' hk hm' hp hx' h).1
          omega
        have ry := hb.rng k y hy
        have rz := hc.rng k z hz
        have e1 : 0 ≤ y → 0 ≤ z ∧ z ≤ y := fun hy0 => by
          obtain ⟨k', m, y', hk, hm', hp, hy', hy1, rfl⟩ := vb.or hw hm hy0
          obtain ⟨z', hz'⟩ : ∃ z', c[k']? = some z' := ⟨_, List.getElem?_eq_getElem (by rw [hc.lo]; exact (List.getElem?_eq_some_iff.1 hm').1)⟩
          have := kid k' m y' z' hk hm' hp hy' hz'
          subst this
          exact vc.le hw rfl k' m y' hk hm' hp hz' hy1
        have e2 : 0 ≤ z → 0 ≤ y ∧ y ≤ z := fun hz0 => by
          obtain ⟨k', m, z', hk, hm', hp, hz', hz1, rfl⟩ := vc.or hw rfl hz0
          obtain ⟨y', hy'⟩ : ∃ y', b[k']? = some y' := ⟨_, List.getElem?_eq_getElem (by rw [hb.lo]; exact (List.getElem?_eq_some_iff.1 hm').1)⟩
          have := kid k' m y' z' hk hm' hp hy' hz'
          subst this
          exact vb.le hw hm k' m y' hk hm' hp hy' hz1
        omega
theorem Rch.none (hc : Rch t [] [] c) : ∀ (j k : Nat) (x : Int), t.length - k ≤ j → c[k]? = some x → x = -1
  | 0, k, x, hj, hx => by have := (List.getElem?_eq_some_iff.1 hx).1; have := hc.lo; omega
  | j + 1, k, x, hj, hx => by
    have hl := (List.getElem?_eq_some_iff.1 hx).1
    rw [hc.lo] at hl
    obtain ⟨n, hn⟩ : ∃ n, t[k]? = some n := ⟨_, List.getElem?_eq_getElem hl⟩
    have hr := hc.rng k x hx
    have : ¬ 0 ≤ x := fun h0 => by
      obtain ⟨k', m, y', hk, hm', hp, hy', hy1, _⟩ := (hc.at_ k n x hn hx).or (isW_nil n) rfl h0
      have := Rch.none hc j k' y' (by omega) hy'
      omega
    omega
end
/-! ### one of Graph's routers wants all -/
def Ls.wild (x : Ls) : Ls := { x with fl := 8 }
end Go.Proofs.Ytmocggibcniggaa.Kt
namespace Go.Proofs.Ytmocggibcniggaa.Kt
open Go Kw Go.Proofs
set_option maxHeartbeats 4000000
set_option maxRecDepth 100000
theorem fold_is {v : Vt} : ∀ (l : List Ls) (m : Option Ls), m.isSome = true → (l.foldl (fdS v) m).isSome = true
  | [], m, h => h
  | y :: l, m, h => by
    rw [List.foldl_cons]
    refine fold_is l _ ?_
    unfold fdS
    split
    · rfl
    · exact h
theorem fold_has {v : Vt} {x : Ls} (ha : x.age < 3600) (hk : isV v x = true) (hi : x.id = v.i) : ∀ (l : List Ls) (m : Option Ls), x ∈ l → (l.foldl (fdS v) m).isSome = true
  | y :: l, m, h => by
    rw [List.foldl_cons]
    rcases List.mem_cons.1 h with rfl | h
    · refine fold_is l _ ?_
      unfold fdS
      rw [decide_eq_true ha, hk, decide_eq_true hi]
      cases m with
      | none => rfl
      | some z => simp only [Option.isSome_some, Bool.not_true, Bool.false_or, Bool.true_and]; split <;> rfl
    · exact fold_has ha hk hi l _ h
end Go.Proofs.Ytmocggibcniggaa.Kt
namespace Go.Proofs.Ytmocggibcniggaa.Kt
open Go Kw Go.Proofs
set_option maxHeartbeats 4000000
set_option maxRecDepth 100000
/-! ### the addresses of Graph's nets -/
theorem and24_all : (List.range 4000).all (fun q => Nat.beq ((256 * q) &&& 4294967040) (256 * q) && Nat.beq ((256 * q + 9) &&& 4294967040) (256 * q)) = true := by kernel_rfl
theorem mask24 : maskF 24 = 4294967040 := by kernel_rfl
theorem bits24 : bitsF 4294967040 = 24 := by kernel_rfl
theorem pnet24 {i : Int} (h0 : 0 ≤ i) (h1 : i ≤ 1000000) (h2 : i % 256 = 0) : pnetF i 24 = i ∧ pnetF (i + 9) 24 = i := by
  obtain ⟨q, hq⟩ : ∃ q : Nat, i = (256 * q : Nat) := ⟨(i / 256).toNat, by omega⟩
  have h := List.all_eq_true.1 and24_all q (List.mem_range.2 (by omega))
  rw [Bool.and_eq_true] at h
  have e1 := Nat.eq_of_beq_eq_true h.1
  have e2 := Nat.eq_of_beq_eq_true h.2
  unfold pnetF
  rw [mask24, hq]
  refine ⟨?_, ?_⟩
  · have := and_i64 (256 * q) 4294967040 (by omega) (by omega)
    rw [e1] at this
    exact this
  · have := and_i64 (256 * q + 9) 4294967040 (by omega) (by omega)
    rw [e2] at this
    exact this
theorem in24 {i : Int} (h0 : 0 ≤ i) (h1 : i ≤ 1000000) (h2 : i % 256 = 0) : netF i 24 = i ∧ inP (i + 9) i 24 = true := by
  obtain ⟨e1, e2⟩ := pnet24 h0 h1 h2
  refine ⟨by rw [net_same 24 h0 (by omega)]; exact e1, ?_⟩
  have ok : ∀ {a : Int}, 0 ≤ a → a ≤ 4294967295 → okA a = true := fun h h' => by
    unfold okA; rw [leB_eq, leB_eq, decide_eq_true h, decide_eq_true h']; rfl
  unfold inP
  rw [ok (by omega) (by omega), ok h0 (by omega), e1, e2, eqB_eq, leB_eq, leB_eq]
  simp
theorem vert_found {l : List Ls} {v : Vt} (h : v ∈ vertsL l) : (findL l v).isSome = true := by
  obtain ⟨y, hy, ha, h⟩ := verts_mem.1 h
  rcases h with ⟨h1, h2, rfl⟩ | ⟨h1, rfl⟩
  · exact fold_has ha (by unfold isV; rw [h1, h2]; simp) rfl l none hy
  · exact fold_has ha (by unfold isV; rw [h1]; simp) rfl l none hy
theorem GrOk.sn {n : Int} {l : List Ls} (h : GrOk n l) : ∀ x ∈ (mapL l).sn, inP (x.p + 9) x.p x.b = true ∧ x.v ∈ (mapL l).vs := fun x hx => by
  have hx : x ∈ (vertsL l).flatMap (snF l) := hx
  obtain ⟨v, hv, hs⟩ := List.mem_flatMap.1 hx
  unfold snF at hs
  split at hs
  · rename_i hk
    rw [List.mem_singleton] at hs
    have hk2 : v.k = 2 := by rw [eqB_eq] at hk; exact of_decide_eq_true hk
    obtain ⟨y, hy⟩ : ∃ y, findL l v = some y := Option.isSome_iff_exists.1 (vert_found hv)
    rw [hy] at hs
    obtain ⟨q1, q2, q3, q4⟩ := find_is hy
    have hy2 : y.bits = 24 ∧ 0 ≤ y.id ∧ y.id ≤ 1000000 ∧ y.id % 256 = 0 := by
      obtain ⟨k, gs, ns, _, rfl, h2, h3, _⟩ := h.ex
      rcases List.mem_append.1 q1 with q1 | q1
      · obtain ⟨j, hj⟩ := List.mem_iff_getElem?.1 q1
        rw [(h2.el j y hj).1] at q3
        unfold isV at q3
        rw [hk2] at q3
        simp at q3
      · obtain ⟨e, _, r1, r2, r3⟩ := h3 y q1
        exact ⟨by rw [e], r1, r2, r3⟩
    rw [hs]
    show inP (netF v.i y.bits + 9) (netF v.i y.bits) y.bits = true ∧ v ∈ (mapL l).vs
    obtain ⟨b1, b2, b3, b4⟩ := hy2
    rw [b1, ← q4, (in24 b2 b3 b4).1]
    exact ⟨(in24 b2 b3 b4).2, hv⟩
  · cases hs
theorem GrOk.sb {n : Int} {l : List Ls} (h : GrOk n l) : ∀ x ∈ (mapL l).sb, inP (x.p + 9) x.p x.b = true ∧ (⟨1, x.r⟩ : Vt) ∈ (mapL l).vs := fun x hx => by
  have hx : x ∈ (vertsL l).flatMap (sbF l) := hx
  obtain ⟨v, hv, hs⟩ := List.mem_flatMap.1 hx
  unfold sbF at hs
  split at hs
  · cases hs
  · rename_i hk
    have hk1 : v.k = 1 := by
      rcases verts_kind hv with h | h
      · exact h
      · rw [h] at hk
        have : eqB (2 : Int) 2 = true := by rw [eqB_eq]; rfl
        rw [this] at hk; cases hk
    obtain ⟨y, hy⟩ : ∃ y, findL l v = some y := Option.isSome_iff_exists.1 (vert_found hv)
    rw [hy] at hs
    obtain ⟨q, hq, hs⟩ := List.mem_flatMap.1 hs
    obtain ⟨q1, _, _, _⟩ := find_is hy
    have hlk := h.link y q1 q hq
    unfold stF at hs
    split at hs
    · rename_i hc
      rw [Bool.and_eq_true, eqB_eq] at hc
      obtain ⟨b1, b2, b3, b4⟩ := hlk.2.2 (of_decide_eq_true hc.1)
      rw [List.mem_singleton] at hs
      rw [hs]
      show inP (netF q.i (bitsF q.d) + 9) (netF q.i (bitsF q.d)) (bitsF q.d) = true ∧ (⟨1, v.i⟩ : Vt) ∈ (mapL l).vs
      rw [b1, bits24, (in24 b2 b3 b4).1]
      refine ⟨(in24 b2 b3 b4).2, ?_⟩
      have : (⟨1, v.i⟩ : Vt) = v := by cases v; simp only [Vt.mk.injEq]; exact ⟨hk1.symm, trivial⟩
      rw [this]
      exact hv
    · cases hs
/-- Once found it stays so, at one of the map's. -/
structure Fnd (m : Mp) (s : Src) : Prop where
  v : s.ok = true → s.v ∈ m.vs
theorem fold_fnd {α : Type} {f : Src → α → Src} {Q : Src → Prop} : ∀ (l : List α) (s : Src), (∀ s, ∀ x ∈ l, Q s → Q (f s x)) → Q s → Q (l.foldl f s)
  | [], _, _, h => h
  | x :: l, s, hf, h => by
    rw [List.foldl_cons]
    exact fold_fnd l _ (fun s y hy => hf s y (List.mem_cons_of_mem _ hy)) (hf s x (List.mem_cons_self ..) h)
theorem fold_hit {α : Type} {f : Src → α → Src} {x : α} (hit : ∀ s, (f s x).ok = true) (keep : ∀ s y, s.ok = true → (f s y).ok = true) : ∀ (l : List α) (s : Src), x ∈ l → (l.foldl f s).ok = true
  | y :: l, s, h => by
    rw [List.foldl_cons]
    rcases List.mem_cons.1 h with rfl | h
    · exact fold_fnd (Q := fun s => s.ok = true) l _ (fun s y _ => keep s y) (hit s)
    · exact fold_hit hit keep l _ h
theorem sn1_keep (a : Int) (s : Src) (x : Sn) (h : s.ok = true) : (sn1 a s x).ok = true := by unfold sn1; split; rfl; exact h
theorem sb1_keep (a : Int) (s : Src) (x : Sb) (h : s.ok = true) : (sb1 a s x).ok = true := by unfold sb1; split; rfl; exact h
theorem sn1_hit {a : Int} {x : Sn} (hi : inP a x.p x.b = true) (s : Src) : (sn1 a s x).ok = true := by
  unfold sn1
  split
  · rfl
  · rename_i h
    cases hk : s.ok with
    | true => rfl
    | false => exact absurd ⟨hi, .inl hk⟩ h
theorem sb1_hit {a : Int} {x : Sb} (hi : inP a x.p x.b = true) (s : Src) : (sb1 a s x).ok = true := by
  unfold sb1
  split
  · rfl
  · rename_i h
    cases hk : s.ok with
    | true => rfl
    | false => exact absurd ⟨hi, .inl hk⟩ h
end Go.Proofs.Ytmocggibcniggaa.Kt
namespace Go.Proofs.Ytmocggibcniggaa.Kt
open Go Kw Go.Proofs
set_option maxHeartbeats 4000000
set_option maxRecDepth 100000
/-! ### whose address the source is -/
theorem src_one {a : Int} {m : Mp} {z : Src} (hz : z.ok = true) (h1 : ∀ x ∈ m.sn, inP a x.p x.b = true → (⟨x.v, x.p, x.b, true⟩ : Src) = z) (h2 : ∀ x ∈ m.sb, inP a x.p x.b = true → (⟨⟨1, x.r⟩, x.p, x.b, true⟩ : Src) = z) (hex : (∃ x ∈ m.sn, inP a x.p x.b = true) ∨ ∃ x ∈ m.sb, inP a x.p x.b = true) : srcF a m = z := by
  have hq : srcF a m = z0 ∨ srcF a m = z := fold_fnd (Q := fun s => s = z0 ∨ s = z) _ _ (fun s x hx hs => by
    unfold sb1
    split
    · rename_i h
      exact .inr (h2 x hx h.1)
    · exact hs) (fold_fnd (Q := fun s => s = z0 ∨ s = z) _ _ (fun s x hx hs => by
    unfold sn1
    split
    · rename_i h
      exact .inr (h1 x hx h.1)
    · exact hs) (.inl rfl))
  have hok : (srcF a m).ok = true := by
    rcases hex with ⟨x, hx, h⟩ | ⟨x, hx, h⟩
    · exact fold_fnd (Q := fun s => s.ok = true) _ _ (fun s y _ => sb1_keep _ s y) (fold_hit (sn1_hit h) (sn1_keep _) _ _ hx)
    · exact fold_hit (sb1_hit h) (sb1_keep _) _ _ hx
  rcases hq with hq | hq
  · rw [hq] at hok; cases hok
  · exact hq
theorem in_net {a p : Int} (h : inP a p 24 = true) : pnetF a 24 = pnetF p 24 := by
  unfold inP at h
  simp only [Bool.and_eq_true] at h
  have := h.2.2.2.2
  rw [eqB_eq] at this
  exact of_decide_eq_true this
theorem one_out {O : List Ot} {up : Int} {outs : List Ot} {z : Ot} (h : EntO O up outs) (hO : ∀ x ∈ O, x = z) (hz : z ∈ O) (hu : z.a ≠ up) : outs = [z] := by
  have hzm : z ∈ outs := (h.mem z).2 ⟨hz, hu, fun y hy _ => by rw [hO y hy]; exact Int.le_refl _⟩
  have hall : ∀ x ∈ outs, x = z := fun x hx => hO x ((h.mem x).1 hx).1
  have hpw := h.pw
  match outs, hall, hpw, hzm with
  | [], _, _, hzm => cases hzm
  | [y], hall, _, _ => rw [hall y (List.mem_singleton.2 rfl)]
  | y :: w :: l, hall, hpw, _ =>
    rw [List.pairwise_cons] at hpw
    have h1 := hpw.1 w (List.mem_cons_self ..)
    rw [hall y (List.mem_cons_self ..), hall w (List.mem_cons_of_mem _ (List.mem_cons_self ..))] at h1
    exact absurd h1 (Int.lt_irrefl _)
theorem mem_zip {α β : Type} {l : List α} {m : List β} {x : α × β} : x ∈ l.zip m ↔ ∃ i : Nat, l[i]? = some x.1 ∧ m[i]? = some x.2 := by
  rw [List.mem_iff_getElem?]
  constructor
  · rintro ⟨i, hi⟩
    rw [List.getElem?_zip_eq_some] at hi
    exact ⟨i, hi⟩
  · rintro ⟨i, hi⟩
    exact ⟨i, List.getElem?_zip_eq_some.2 hi⟩
/-! ### the row with a stub at each -/
section
variable {n : Nat} {cs up dn : Nat → Int} {St : Nat → Lk → Prop} {gs : List Ls} {t : List Nd}
/-- Whose parent is a Node of the row, stands behind it. -/
theorem RowL.kid (h : RowL n cs up dn St gs) (hc : ∀ j, j + 1 < n → 1 ≤ cs j ∧ cs j ≤ 256) (hn : n ≤ 1000) (hn0 : 0 < n) (hT : Tr gs ⟨1, ((0 : Nat) : Int) + 1⟩ t) {a b : Nat} {x m : Nd} (hx : t[a]? = some x) {j : Nat} (hj : j < n) (hv : x.v = ⟨1, (j : Int) + 1⟩) (hm : t[b]? = some m) (hp : m.p = a) : j + 1 < n ∧ m.v = ⟨1, (j : Int) + 2⟩ ∧ m.d = up j := by
  have hb : 0 < b := by
    rcases Nat.eq_zero_or_pos b with rfl | hb
    · have := hT.tre.root m hm
      omega
    · exact hb
  obtain ⟨e, he, p, y, _, hy, hyv, het, hmp, _, hmd, _⟩ := hT.gr.edge hb hm
  have hpa : p = a := by omega
  subst hpa
  rw [hx] at hy
  cases hy
  obtain ⟨i, hi, f1, f2⟩ := h.edge he
  rw [hv, f1] at hyv
  have hij : i = j := by
    have := congrArg Vt.i hyv
    simp only at this
    omega
  subst hij
  rcases f2 with ⟨g1, g2, _, g4⟩ | ⟨g1, g2, _, _⟩
  · exact ⟨g1, by rw [← het, g2], by rw [hmd, g4]⟩
  · exfalso
    have hmv : m.v = ⟨1, (i : Int)⟩ := by rw [← het, g2]
    obtain ⟨j', rfl⟩ : ∃ j', i = j' + 1 := ⟨i - 1, by omega⟩
    rcases Nat.eq_zero_or_pos j' with rfl | h0
    · have := hT.gr.inj hm hT.hd (by rw [hmv]; rfl)
      omega
    · obtain ⟨j2, rfl⟩ : ∃ j2, j' = j2 + 1 := ⟨j' - 1, by omega⟩
      obtain ⟨_, z, hz, hzv, hmp', _⟩ := h.par_up hc hn hn0 hT hm (j := j2) (by omega) (Nat.zero_le _) (by rw [hmv]; congr 1)
      have : par t b = p := by omega
      rw [this, hx] at hz
      cases hz
      rw [hv] at hzv
      have := congrArg Vt.i hzv
      simp only at this
      omega
/-- How far it is to the member at the end. -/
theorem RowL.need (h : RowL n cs up dn St gs) (hc : ∀ j, j + 1 < n → 1 ≤ cs j ∧ cs j ≤ 256) (hn : n ≤ 1000) (hn0 : 0 < n) (hT : Tr gs ⟨1, ((0 : Nat) : Int) + 1⟩ t) {o : List Int} (hR : Rch t [] [⟨1, (n : Int)⟩] o) : ∀ (d j : Nat), j + d + 1 = n → ∀ (a : Nat) (x : Nd), t[a]? = some x → x.v = ⟨1, (j : Int) + 1⟩ → o[a]? = some ((n : Int) - j) := by
  intro d
  induction d with
  | zero =>
    intro j hj a x hx hv
    have hal := (List.getElem?_eq_some_iff.1 hx).1
    obtain ⟨y, hy⟩ : ∃ y, o[a]? = some y := ⟨_, List.getElem?_eq_getElem (by rw [hR.lo]; exact hal)⟩
    have hval := hR.at_ a x y hx hy
    have hm : isMb [⟨1, (n : Int)⟩] x = true := by
      unfold isMb
      rw [List.any_eq_true]
      exact ⟨_, List.mem_singleton.2 rfl, decide_eq_true (by rw [hv]; congr 1; omega)⟩
    rw [hy, hval.me (isW_nil x) hm]
    congr 1
    omega
  | succ d ih =>
    intro j hj a x hx hv
    have hal := (List.getElem?_eq_some_iff.1 hx).1
    obtain ⟨y, hy⟩ : ∃ y, o[a]? = some y := ⟨_, List.getElem?_eq_getElem (by rw [hR.lo]; exact hal)⟩
    have hval := hR.at_ a x y hx hy
    have hm : isMb [⟨1, (n : Int)⟩] x = false := by
      unfold isMb
      rw [List.any_eq_false]
      intro z hz
      rw [List.mem_singleton.1 hz, hv]
      simp only [decide_eq_true_eq]
      intro hh
      have := congrArg Vt.i hh
      simp only at this
      omega
    obtain ⟨b, m, hm1, hm2, _⟩ := h.at_ hc hn hn0 hT (j + 1) (by omega)
    have hm2 : m.v = ⟨1, (j : Int) + 2⟩ := by rw [hm2]; congr 1
    obtain ⟨hb, z, hz, hzv, hmp, _⟩ := h.par_up hc hn hn0 hT hm1 (j := j) (by omega) (Nat.zero_le _) hm2
    have hpa : par t b = a := hT.gr.inj hz hx (by rw [hzv, hv])
    rw [hpa] at hmp
    have hab : a < b := by
      obtain ⟨_, _, p, _, hp, _, _, _, hmp2, _⟩ := hT.gr.edge hb hm1
      omega
    have hob := ih (j + 1) (by omega) b m hm1 (by rw [hm2]; congr 1)
    obtain ⟨c1, c2⟩ := hval.le (isW_nil x) hm b m _ hab hm1 hmp hob (by omega)
    obtain ⟨b', m', y', k1, k2, k3, k4, k5, k6⟩ := hval.or (isW_nil x) hm c1
    obtain ⟨_, e1, _⟩ := h.kid hc hn hn0 hT hx (by omega) hv k2 k3
    have : b' = b := hT.gr.inj k2 hm1 (by rw [e1, hm2])
    subst this
    rw [hob] at k4
    cases k4
    rw [hm1] at k2
    cases k2
    have hck : cK x m = 1 := if_pos ⟨by rw [hm2], by rw [hv]⟩
    have hcp : cP x = 0 := if_pos (by rw [hv])
    rw [hy, k6, hck, hcp]
    congr 1
    omega
/-- What a router of the row goes on to. -/
theorem RowL.outs (h : RowL n cs up dn St gs) (hc : ∀ j, j + 1 < n → 1 ≤ cs j ∧ cs j ≤ 256) (hn : n ≤ 1000) (hn0 : 0 < n) (hT : Tr gs ⟨1, ((0 : Nat) : Int) + 1⟩ t) {o : List Int} (hR : Rch t [] [⟨1, (n : Int)⟩] o) {j : Nat} (hj : j + 1 < n) {a : Nat} {x : Nd} (hx : t[a]? = some x) (hv : x.v = ⟨1, (j : Int) + 1⟩) (hu : up j ≠ 0) {g pf bt : Int} {outs : List Ot} (hO : EntO (outs0 t a o [] g) (upF t x [] pf bt) outs) : outs = [⟨up j, (n : Int) - j⟩] := by
  have hup : upF t x [] pf bt = 0 := by
    unfold upF
    split
    · rfl
    · rename_i hp
      rw [ltB_eq] at hp
      have hp := of_decide_eq_false hp
      have ha : 0 < a := by
        rcases Nat.eq_zero_or_pos a with rfl | ha
        · have := hT.tre.root x hx; omega
        · exact ha
      obtain ⟨e, he, p, y, _, hy, hyv, het, hmp, _⟩ := hT.gr.edge ha hx
      obtain ⟨i, _, f1, _⟩ := h.edge he
      have : eqB (t.getD x.p.toNat zNd).v.k 1 = true := by
        rw [hmp, Int.toNat_natCast, List.getD_eq_getElem?_getD, hy]
        show eqB y.v.k 1 = true
        rw [hyv, f1, eqB_eq]
        rfl
      rw [this]
      rfl
  rw [hup] at hO
  have hne := h.need hc hn hn0 hT hR
  obtain ⟨b, m, hm1, hm2, _⟩ := h.at_ hc hn hn0 hT (j + 1) (by omega)
  have hm3 : m.v = ⟨1, (j : Int) + 2⟩ := by rw [hm2]; congr 1
  obtain ⟨hb, z, hz, hzv, hmp, hmd⟩ := h.par_up hc hn hn0 hT hm1 (j := j) (by omega) (Nat.zero_le _) hm3
  have hpa : par t b = a := hT.gr.inj hz hx (by rw [hzv, hv])
  rw [hpa] at hmp
  have hob := hne (n - (j + 1) - 1) (j + 1) (by omega) b m hm1 hm2
  have hval : ∀ (m' : Nd) (y : Int), m'.p = (a : Int) → m'.v = ⟨1, (j : Int) + 2⟩ → m'.d = up j → y = (n : Int) - ((j + 1 : Nat) : Int) → out1 a (m', y) = [⟨up j, (n : Int) - j⟩] := by
    intro m' y h1 h2 h3 h4
    unfold out1
    rw [show (notB (eqB m'.p a) || ltB y 0) = false from by rw [notB_eq, eqB_eq, ltB_eq, h1, decide_eq_false (show ¬ y < 0 by omega)]; simp]
    show [(⟨m'.d, _⟩ : Ot)] = _
    rw [show eqB m'.v.k 1 = true from by rw [h2, eqB_eq]; rfl, h3]
    show [(⟨up j, wr .i64 (y + 1)⟩ : Ot)] = _
    rw [wr_i64 (by omega) (by omega), h4]
    congr 2
    omega
  refine one_out hO (fun w hw => ?_) ?_ hu
  · unfold outs0 at hw
    rw [List.flatMap_nil, List.append_nil] at hw
    obtain ⟨⟨m', y⟩, hmy, hw⟩ := List.mem_flatMap.1 hw
    obtain ⟨i, h1, h2⟩ := mem_zip.1 hmy
    by_cases hp : m'.p = a
    · obtain ⟨_, e1, e2⟩ := h.kid hc hn hn0 hT hx (by omega) hv h1 hp
      have : i = b := hT.gr.inj h1 hm1 (by rw [e1, hm3])
      subst this
      rw [hob] at h2
      rw [hval m' y hp e1 e2 (Option.some.inj h2).symm] at hw
      exact List.mem_singleton.1 hw
    · unfold out1 at hw
      rw [show (notB (eqB m'.p a) || ltB y 0) = true from by rw [notB_eq, eqB_eq, show (m'.p == (a : Int)) = false from by simpa using hp]; rfl] at hw
      cases hw
  · unfold outs0
    rw [List.flatMap_nil, List.append_nil]
    refine List.mem_flatMap.2 ⟨(m, (n : Int) - ((j + 1 : Nat) : Int)), mem_zip.2 ⟨b, hm1, hob⟩, ?_⟩
    rw [hval m _ hmp hm3 hmd rfl]
    exact List.mem_singleton.2 rfl
end
end Go.Proofs.Ytmocggibcniggaa.Kt
namespace Go.Proofs.Ytmocggibcniggaa.Kt
open Go Kw Go.Proofs
set_option maxHeartbeats 4000000
set_option maxRecDepth 100000
/-! ### the vertices of a map are distinct -/
theorem vlt_iff {a b : Vt} : vlt a b = true ↔ a.k < b.k ∨ (a.k = b.k ∧ a.i < b.i) := by
  unfold vlt
  rw [Bool.or_eq_true, Bool.and_eq_true]
  simp only [decide_eq_true_eq]
theorem ins_srt {v : Vt} : ∀ {l : List Vt}, l.Pairwise (fun a b => vlt a b = true) → (insV l v).Pairwise (fun a b => vlt a b = true) ∧ ∀ x ∈ insV l v, x ∈ l ∨ x = v
  | [], _ => ⟨List.pairwise_singleton _ _, fun x hx => .inr (List.mem_singleton.1 hx)⟩
  | y :: l, h => by
    obtain ⟨h1, h2⟩ := List.pairwise_cons.1 h
    obtain ⟨k1, k2⟩ := ins_srt (v := v) h2
    unfold insV
    split
    · rename_i hv
      refine ⟨List.pairwise_cons.2 ⟨fun x hx => ?_, k1⟩, fun x hx => ?_⟩
      · rcases k2 x hx with hx | rfl
        · exact h1 x hx
        · exact hv
      · rcases List.mem_cons.1 hx with rfl | hx
        · exact .inl (List.mem_cons_self ..)
        · exact (k2 x hx).imp (List.mem_cons_of_mem _) id
    · rename_i hv
      split
      · exact ⟨h, fun x hx => .inl hx⟩
      · rename_i hne
        have hvy : vlt v y = true := by
          rw [vlt_iff] at hv ⊢
          have : ¬ (y.k = v.k ∧ y.i = v.i) := fun hh => hne (by cases y; cases v; simp only at hh; rw [hh.1, hh.2])
          omega
        refine ⟨List.pairwise_cons.2 ⟨fun x hx => ?_, h⟩, fun x hx => ?_⟩
        · rcases List.mem_cons.1 hx with rfl | hx
          · exact hvy
          · have := h1 x hx
            rw [vlt_iff] at this hvy ⊢
            omega
        · rcases List.mem_cons.1 hx with rfl | hx
          · exact .inr rfl
          · exact .inl hx
theorem vS_srt {m : List Vt} (x : Ls) (h : m.Pairwise (fun a b => vlt a b = true)) : (vS m x).Pairwise (fun a b => vlt a b = true) := by
  have h1 : (vS1 m x).Pairwise (fun a b => vlt a b = true) := by
    unfold vS1
    split
    · exact (ins_srt h).1
    · exact h
  unfold vS
  split
  · exact h
  · unfold vS2
    split
    · exact (ins_srt h1).1
    · exact h1
theorem verts_nd (l : List Ls) : (vertsL l).Nodup := by
  have : ∀ (l : List Ls) (m : List Vt), m.Pairwise (fun a b => vlt a b = true) → (l.foldl vS m).Pairwise (fun a b => vlt a b = true) := by
    intro l
    induction l with
    | nil => exact fun _ h => h
    | cons x l ih => exact fun m h => ih _ (vS_srt x h)
  refine (this l [] List.Pairwise.nil).imp (fun {a b} h e => ?_)
  subst e
  rw [vlt_iff] at h
  omega
/-! ### each network once -/
def LkU (l : List Lk) : Prop := l.Pairwise (fun q q' => q.k = 2 → q'.k = 2 → q.i ≠ q'.i)
/-- What the links so far are like: networks below B j, no pairs if there are none. -/
structure GsU (P : Nat) (B : Nat → Int) (gs : List Ls) : Prop where
  el : ∀ (j : Nat) (x : Ls), gs[j]? = some x → LkU x.lk ∧ (∀ q ∈ x.lk, q.k = 2 → q.i < B j) ∧ ∀ q ∈ x.lk, q.k = 1 → 2 < P
theorem GsU.mono {P : Nat} {B B' : Nat → Int} {gs : List Ls} (h : GsU P B gs) (hB : ∀ j, B j ≤ B' j) : GsU P B' gs := ⟨fun j x hx => by
  obtain ⟨h1, h2, h3⟩ := h.el j x hx
  exact ⟨h1, fun q hq hk => by have := h2 q hq hk; have := hB j; omega, h3⟩⟩
theorem GsU.add {P : Nat} {B B' : Nat → Int} {gs : List Ls} (h : GsU P B gs) (hB : ∀ j, B j ≤ B' j) {a : Nat} {x : Ls} (hx : gs[a]? = some x) {q : Lk} (h2 : q.k = 2 → B a ≤ q.i ∧ q.i < B' a) (h1 : q.k = 1 → 2 < P) : GsU P B' (gs.set a (x.add q)) := ⟨fun j y hy => by
  rcases get_set hy with ⟨rfl, rfl, _⟩ | ⟨_, hy⟩
  · obtain ⟨a1, a2, a3⟩ := h.el a x hx
    refine ⟨?_, fun q' hq' hk => ?_, fun q' hq' hk => ?_⟩
    · show LkU (x.lk ++ [q])
      unfold LkU
      rw [List.pairwise_append]
      refine ⟨a1, List.pairwise_singleton _ _, fun q1 hq1 q2 hq2 k1 k2 => ?_⟩
      rw [List.mem_singleton.1 hq2] at k2 ⊢
      have := a2 q1 hq1 k1
      have := (h2 k2).1
      omega
    · have hq' : q' ∈ x.lk ++ [q] := hq'
      rcases List.mem_append.1 hq' with hq' | hq'
      · have := a2 q' hq' hk
        have := hB a
        omega
      · rw [List.mem_singleton.1 hq'] at hk ⊢
        exact (h2 hk).2
    · have hq' : q' ∈ x.lk ++ [q] := hq'
      rcases List.mem_append.1 hq' with hq' | hq'
      · exact a3 q' hq' hk
      · rw [List.mem_singleton.1 hq'] at hk
        exact h1 hk
  · exact (h.mono hB).el j y hy⟩
theorem Gp.u {k P : Nat} {non : Bool} {i : Nat} {gs : List Ls} (h : Gp k P non i gs) : GsU P (fun _ => 25856) gs := by
  induction h with
  | start =>
    refine ⟨fun j x hx => ?_⟩
    rw [List.getElem?_map] at hx
    cases hr : (List.range k)[j]? with
    | none => rw [hr] at hx; cases hx
    | some z =>
      rw [hr] at hx
      cases hx
      exact ⟨List.Pairwise.nil, fun q hq => (nomatch hq), fun q hq => (nomatch hq)⟩
  | skip _ _ _ ih => exact ih
  | one _ h2 _ _ _ _ h7 h8 _ ih =>
    obtain ⟨q1, _⟩ := h8
    exact ih.add (fun _ => Int.le_refl _) h7 (fun hk => by omega) (fun _ => by omega)
  | two _ h2 _ _ _ _ h7 h8 h9 h10 ih =>
    obtain ⟨q1, _⟩ := h8
    obtain ⟨r1, _⟩ := h10
    exact (ih.add (fun _ => Int.le_refl _) h7 (fun hk => by omega) (fun _ => by omega)).add (fun _ => Int.le_refl _) h9 (fun hk => by omega) (fun _ => by omega)
def bN (i : Nat) : Option (Nat × List Int) → Nat → Int
  | none, _ => 256 * (101 + (i : Int))
  | some (r, _), j => if j < r then 256 * (102 + (i : Int)) else 256 * (101 + (i : Int))
theorem Gn.u {k P Q : Nat} {non : Bool} {i : Nat} {gs ns : List Ls} {o : Option (Nat × List Int)} (h : Gn k P Q non i gs ns o) : GsU P (bN i o) gs := by
  have up : ∀ (i r : Nat) (rt rt' : List Int) (j : Nat), bN i (some (r, rt)) j ≤ bN i (some (r + 1, rt')) j := by
    intro i r rt rt' j
    unfold bN
    simp only
    split <;> split <;> omega
  induction h with
  | start h => exact h.u.mono (fun j => by show (25856 : Int) ≤ 256 * (101 + ((0 : Nat) : Int)); omega)
  | @into i _ _ _ _ _ ih => exact ih.mono (fun j => by unfold bN; simp only; split <;> omega)
  | skip _ _ ih => exact ih.mono (up _ _ _ _)
  | half _ _ _ _ ih => exact ih.mono (up _ _ _ _)
  | @full i _ _ r _ _ q _ _ _ h2 h3 _ ih =>
    obtain ⟨q1, q2, _⟩ := h3
    refine ih.add (up _ _ _ _) h2 (fun _ => ?_) (fun hk => by omega)
    unfold bN
    simp only
    rw [if_neg (by omega), if_pos (by omega)]
    omega
  | @out i _ _ _ _ _ _ _ _ ih => exact ih.mono (fun j => by
      unfold bN
      simp only
      split <;> omega)
theorem Gf.u {k P Q : Nat} {non : Bool} {r : Nat} {gs ns : List Ls} (h : Gf k P Q non r gs ns) : ∃ B, GsU P B gs := by
  induction h with
  | start h => exact ⟨_, h.u⟩
  | stub _ _ h2 h3 ih =>
    obtain ⟨B, ih⟩ := ih
    obtain ⟨q1, _⟩ := h3
    exact ⟨B, ih.add (fun _ => Int.le_refl _) h2 (fun hk => by omega) (fun hk => by omega)⟩
theorem Gf.st {k P Q : Nat} {non : Bool} {r : Nat} {gs ns : List Ls} (h : Gf k P Q non r gs ns) : ∀ (j : Nat) (x : Ls), j < r → gs[j]? = some x → ∃ q ∈ x.lk, q.k = 3 := by
  induction h with
  | start _ => exact fun j x hj => absurd hj (Nat.not_lt_zero _)
  | @stub r _ _ y q _ _ h2 h3 ih =>
    intro j x hj hx
    rcases get_set hx with ⟨rfl, rfl, _⟩ | ⟨hne, hx⟩
    · exact ⟨q, List.mem_append_right _ (List.mem_singleton.2 rfl), h3.1⟩
    · exact ih j x (by omega) hx
section
variable {n : Int} {P Q : Nat} {non : Bool} {l : List Ls}
theorem Mde.rtr (h : Mde n P Q non l) {v : Vt} {x : Ls} (hx : findL l v = some x) (hk : v.k = 1) : LkU x.lk ∧ (∀ q ∈ x.lk, q.k = 1 → 2 < P) ∧ ∃ q ∈ x.lk, q.k = 3 := by
  obtain ⟨k, gs, ns, _, rfl, hf⟩ := h.ex
  obtain ⟨h1, _, h3, _⟩ := find_is hx
  unfold isV at h3
  rw [Bool.or_eq_true, Bool.and_eq_true, Bool.and_eq_true, Bool.and_eq_true] at h3
  rcases List.mem_append.1 h1 with h1 | h1
  · obtain ⟨j, hj⟩ := List.mem_iff_getElem?.1 h1
    have hjl := (List.getElem?_eq_some_iff.1 hj).1
    have hl := hf.g.len
    obtain ⟨B, hB⟩ := hf.u
    obtain ⟨a1, _, a3⟩ := hB.el j x hj
    exact ⟨a1, a3, hf.st j x (by omega) hj⟩
  · exfalso
    obtain ⟨j, hj⟩ := List.mem_iff_getElem?.1 h1
    have e1 := (hf.n.1.el j x hj).1
    have hxk : x.kind = 2 := by rw [e1]
    rcases h3 with ⟨_, a, _⟩ | ⟨a, _⟩
    · have a := of_decide_eq_true a
      omega
    · have a := of_decide_eq_true a
      omega
/-- Which vertices there are. -/
theorem Mde.vert (h : Mde n P Q non l) {r : Int} : (⟨1, r⟩ : Vt) ∈ (mapL l).vs ↔ 1 ≤ r ∧ r ≤ 1 + n % 6 := by
  constructor
  · intro hv
    obtain ⟨y, hy⟩ := Option.isSome_iff_exists.1 (vert_found hv)
    rcases h.find hy with ⟨_, a, b, _⟩ | ⟨a, _⟩
    · exact ⟨a, b⟩
    · cases a
  · rintro ⟨h1, h2⟩
    obtain ⟨k, gs, ns, hk, rfl, hf⟩ := h.ex
    have hl := hf.g.len
    obtain ⟨x, hx⟩ : ∃ x, gs[(r - 1).toNat]? = some x := ⟨_, List.getElem?_eq_getElem (by omega)⟩
    obtain ⟨e1, _⟩ := hf.g.el _ x hx
    refine verts_mem.2 ⟨x, List.mem_append_left _ (List.mem_of_getElem? hx), by rw [e1]; show (0 : Int) < 3600; decide, .inl ⟨by rw [e1], by rw [e1], ?_⟩⟩
    rw [e1]
    show (⟨1, r⟩ : Vt) = ⟨1, (((r - 1).toNat : Nat) : Int) + 1⟩
    congr 1
    omega
theorem Mde.nets (h : Mde n P Q non l) {v : Vt} {x : Ls} (hx : findL l v = some x) (hk : v.k = 2) : x.bits = 24 ∧ v.i % 256 = 0 ∧ 25856 ≤ v.i ∧ v.i ≤ 27648 := by
  obtain ⟨k, gs, ns, _, rfl, hf⟩ := h.ex
  obtain ⟨h1, _, h3, h4⟩ := find_is hx
  unfold isV at h3
  rw [Bool.or_eq_true, Bool.and_eq_true, Bool.and_eq_true, Bool.and_eq_true] at h3
  have hn8 := hf.n.2
  rcases List.mem_append.1 h1 with h1 | h1
  · exfalso
    obtain ⟨j, hj⟩ := List.mem_iff_getElem?.1 h1
    have e1 := (hf.g.el j x hj).1
    have hxk : x.kind = 1 := by rw [e1]
    rcases h3 with ⟨a, _⟩ | ⟨_, a⟩
    · have a := of_decide_eq_true a
      omega
    · have a := of_decide_eq_true a
      omega
  · obtain ⟨j, hj⟩ := List.mem_iff_getElem?.1 h1
    have hjl := (List.getElem?_eq_some_iff.1 hj).1
    have e1 := (hf.n.1.el j x hj).1
    have hxi : x.id = 256 * (101 + (j : Int)) := by rw [e1]
    have hxb : x.bits = 24 := by rw [e1]
    exact ⟨hxb, by omega, by omega, by omega⟩
theorem Mde.sn (h : Mde n P Q non l) : ∀ x ∈ (mapL l).sn, x.v = ⟨2, x.p⟩ ∧ x.b = 24 ∧ x.p % 256 = 0 ∧ 25856 ≤ x.p ∧ x.p ≤ 27648 ∧ x.v ∈ (mapL l).vs := fun x hx => by
  have hx : x ∈ (vertsL l).flatMap (snF l) := hx
  obtain ⟨v, hv, hs⟩ := List.mem_flatMap.1 hx
  unfold snF at hs
  split at hs
  · rename_i hk
    rw [List.mem_singleton] at hs
    have hk2 : v.k = 2 := by rw [eqB_eq] at hk; exact of_decide_eq_true hk
    obtain ⟨y, hy⟩ : ∃ y, findL l v = some y := Option.isSome_iff_exists.1 (vert_found hv)
    rw [hy] at hs
    obtain ⟨b1, b2, b3, b4⟩ := h.nets hy hk2
    have hs : x = ⟨v, netF v.i y.bits, y.bits⟩ := hs
    rw [b1, (in24 (by omega) (by omega) b2).1] at hs
    rw [hs]
    exact ⟨by cases v; simp only [Vt.mk.injEq]; exact ⟨hk2, trivial⟩, rfl, b2, b3, b4, hv⟩
  · cases hs
theorem Mde.sb (h : Mde n P Q non l) : (∀ x ∈ (mapL l).sb, x.p = 256 * (200 + x.r) ∧ x.b = 24 ∧ 1 ≤ x.r ∧ x.r ≤ 1 + n % 6) ∧ ∀ r, 1 ≤ r → r ≤ 1 + n % 6 → ∃ x ∈ (mapL l).sb, x.r = r := by
  have hm : ∀ {i : Int} {q : Lk}, 0 ≤ q.i → q.i ≤ 1000000 → q.i % 256 = 0 → q.k = 3 → q.d = 4294967040 → stF i q = [⟨i, q.i, 24, q.c⟩] := by
    intro i q b2 b3 b4 c1 c2
    unfold stF
    rw [c1, c2, bits24, show (eqB (3 : Int) 3 && leB 0 24) = true from by rw [eqB_eq, leB_eq]; rfl, (in24 b2 b3 b4).1]
  refine ⟨fun x hx => ?_, fun r h1 h2 => ?_⟩
  · have hx : x ∈ (vertsL l).flatMap (sbF l) := hx
    obtain ⟨v, hv, hs⟩ := List.mem_flatMap.1 hx
    unfold sbF at hs
    split at hs
    · cases hs
    · rename_i hk
      have hk1 : v.k = 1 := by
        rcases verts_kind hv with h | h
        · exact h
        · rw [h] at hk
          have : eqB (2 : Int) 2 = true := by rw [eqB_eq]; rfl
          rw [this] at hk; cases hk
      obtain ⟨y, hy⟩ : ∃ y, findL l v = some y := Option.isSome_iff_exists.1 (vert_found hv)
      rw [hy] at hs
      obtain ⟨q, hq, hs⟩ := List.mem_flatMap.1 hs
      have hq : q ∈ y.lk := hq
      rcases h.find hy with ⟨_, a2, a3, _, a5⟩ | ⟨a, _⟩
      · rcases (a5 q hq).kd with ⟨c, _⟩ | ⟨c, _⟩ | ⟨c1, c2, c3⟩
        · unfold stF at hs
          rw [c, show (eqB (1 : Int) 3 && leB 0 (bitsF q.d)) = false from by rw [eqB_eq]; rfl] at hs
          cases hs
        · unfold stF at hs
          rw [c, show (eqB (2 : Int) 3 && leB 0 (bitsF q.d)) = false from by rw [eqB_eq]; rfl] at hs
          cases hs
        · have hn6 : n % 6 ≤ 5 := by omega
          rw [hm (by omega) (by omega) (by omega) c1 c3, List.mem_singleton] at hs
          rw [hs]
          exact ⟨c2, rfl, a2, a3⟩
      · omega
  · obtain ⟨y, hy⟩ : ∃ y, findL l ⟨1, r⟩ = some y := Option.isSome_iff_exists.1 (vert_found (h.vert.2 ⟨h1, h2⟩))
    obtain ⟨_, _, q, hq, hk⟩ := h.rtr hy rfl
    rcases h.find hy with ⟨_, a2, a3, _, a5⟩ | ⟨a, _⟩
    · rcases (a5 q hq).kd with ⟨c, _⟩ | ⟨c, _⟩ | ⟨c1, c2, c3⟩
      · omega
      · omega
      · have c2 : q.i = 256 * (200 + r) := c2
        have hn6 : n % 6 ≤ 5 := by omega
        refine ⟨⟨r, q.i, 24, q.c⟩, List.mem_flatMap.2 ⟨_, h.vert.2 ⟨h1, h2⟩, ?_⟩, rfl⟩
        unfold sbF
        rw [show eqB (⟨1, r⟩ : Vt).k 2 = false from by rw [eqB_eq]; rfl]
        show _ ∈ ((findL l ⟨1, r⟩).getD zLs).lk.flatMap (stF r)
        rw [hy]
        refine List.mem_flatMap.2 ⟨q, hq, ?_⟩
        rw [hm (by omega) (by omega) (by omega) c1 c3]
        exact List.mem_singleton.2 rfl
    · cases a
theorem and24_200 : (List.range 4000).all (fun q => Nat.beq ((256 * q + 200) &&& 4294967040) (256 * q)) = true := by kernel_rfl
theorem pnet200 {i : Int} (h0 : 0 ≤ i) (h1 : i ≤ 1000000) (h2 : i % 256 = 0) : pnetF (i + 200) 24 = i := by
  obtain ⟨q, hq⟩ : ∃ q : Nat, i = (256 * q : Nat) := ⟨(i / 256).toNat, by omega⟩
  have e2 := Nat.eq_of_beq_eq_true (List.all_eq_true.1 and24_200 q (List.mem_range.2 (by omega)))
  unfold pnetF
  rw [mask24, hq]
  have := and_i64 (256 * q + 200) 4294967040 (by omega) (by omega)
  rw [e2] at this
  exact this
theorem in24_of {a p : Int} (h0 : 0 ≤ a) (h1 : a ≤ 1000000) (h2 : 0 ≤ p) (h3 : p ≤ 1000000) (h4 : pnetF a 24 = pnetF p 24) : inP a p 24 = true := by
  have ok : ∀ {a : Int}, 0 ≤ a → a ≤ 4294967295 → okA a = true := fun h h' => by
    unfold okA; rw [leB_eq, leB_eq, decide_eq_true h, decide_eq_true h']; rfl
  unfold inP
  rw [ok h0 (by omega), ok h2 (by omega), h4, eqB_eq, leB_eq, leB_eq]
  simp
/-- Whose the source is: a router's stub's. -/
theorem Mde.src_sb (h : Mde n P Q non l) {r : Int} (h1 : 1 ≤ r) (h2 : r ≤ 1 + n % 6) : srcF (256 * (200 + r) + 9) (mapL l) = ⟨⟨1, r⟩, 256 * (200 + r), 24, true⟩ := by
  have hn6 : n % 6 ≤ 5 := by omega
  have e0 := (pnet24 (i := 256 * (200 + r)) (by omega) (by omega) (by omega)).2
  refine src_one rfl (fun x hx hi => ?_) (fun x hx hi => ?_) (.inr ?_)
  · exfalso
    obtain ⟨_, b2, b3, b4, b5, _⟩ := h.sn x hx
    rw [b2] at hi
    have := in_net hi
    rw [e0, (pnet24 (by omega) (by omega) b3).1] at this
    omega
  · obtain ⟨b1, b2, b3, b4⟩ := h.sb.1 x hx
    rw [b2] at hi
    have := in_net hi
    rw [e0, (pnet24 (i := x.p) (by omega) (by omega) (by omega)).1] at this
    rw [b2, show x.r = r by omega, show x.p = 256 * (200 + r) by omega]
  · obtain ⟨x, hx, hr⟩ := h.sb.2 r h1 h2
    obtain ⟨b1, b2, b3, b4⟩ := h.sb.1 x hx
    refine ⟨x, hx, ?_⟩
    rw [b2]
    refine in24_of (by omega) (by omega) (by omega) (by omega) ?_
    rw [e0, (pnet24 (i := x.p) (by omega) (by omega) (by omega)).1]
    omega
/-- A network's. -/
theorem Mde.src_sn (h : Mde n P Q non l) {x : Sn} (hx : x ∈ (mapL l).sn) : srcF (x.p + 200) (mapL l) = ⟨x.v, x.p, 24, true⟩ := by
  have hn6 : n % 6 ≤ 5 := by omega
  obtain ⟨a1, a2, a3, a4, a5, _⟩ := h.sn x hx
  have e0 := pnet200 (i := x.p) (by omega) (by omega) a3
  refine src_one rfl (fun y hy hi => ?_) (fun y hy hi => ?_) (.inl ?_)
  · obtain ⟨b1, b2, b3, b4, b5, _⟩ := h.sn y hy
    rw [b2] at hi
    have := in_net hi
    rw [e0, (pnet24 (i := y.p) (by omega) (by omega) b3).1] at this
    rw [b2, b1, a1, ← this]
  · exfalso
    obtain ⟨b1, b2, b3, b4⟩ := h.sb.1 y hy
    rw [b2] at hi
    have := in_net hi
    rw [e0, (pnet24 (i := y.p) (by omega) (by omega) (by omega)).1] at this
    omega
  · refine ⟨x, hx, ?_⟩
    rw [a2]
    refine in24_of (by omega) (by omega) (by omega) (by omega) ?_
    rw [e0, (pnet24 (i := x.p) (by omega) (by omega) a3).1]
end
end Go.Proofs.Ytmocggibcniggaa.Kt
namespace Go.Proofs.Ytmocggibcniggaa.Kt
open Go Kw Go.Proofs
attribute [local irreducible] Kw.GI Kw.GR Kw.FnR Kw.FnX Kw.FnI
set_option maxHeartbeats 16000000
set_option maxRecDepth 100000
abbrev hEt (p b g u : Int) (x : AV) : Option (TypeId × List AV) := some (81, [I p, I b, I g, I u, x])
abbrev avEt (p b g u : Int) (l : List Ot) : AV := .agg [I p, I b, I g, I u, fsOt l]
/-- What Entry answers, where s is the source, t the tree, a the router's place. -/
def EntR (m : Mp) (ms : List Vt) (ps : List Pt) (g : Int) (s : Src) (t : List Nd) : Option Nat → AV → Prop
  | none, r => r = .tup [avEt 0 0 0 0 [], I 7]
  | some a, r => ∃ n o outs, t[a]? = some n ∧ Rch t m.wl ms o ∧ EntO (outs0 t a o ps g) (upF t n ps s.p s.b) outs ∧ r = .tup [avEt s.p s.b g (upF t n ps s.p s.b) outs, I 0]
def entP (s : Src) (t : List Nd) (self : Int) : Option Nat := match s.ok with
  | true => placeL t ⟨1, self⟩
  | false => none
abbrev REnt (m : Mp) (ms : List Vt) (self : Int) (ps : List Pt) (src g : Int) : AV → Hp → Sp → Prop := fun r H S => EntR m ms ps g (srcF src m) (castT m (srcF src m)) (entP (srcF src m) (castT m (srcF src m)) self) r ∧ H = [] ∧ S = []
theorem tre_castT {l : List Ls} (hf : Few l) (s : Src) : Tre (castT (mapL l) s) := by
  unfold castT
  split
  · by_cases hv : s.v ∈ (mapL l).vs
    · exact (tr_of hf hv).tre
    · unfold refTree
      rw [show (mapL l).vs.any (fun x => decide (x = s.v)) = false from ?_]
      · exact tre_nil
      · rw [← Bool.not_eq_true, List.any_eq_true]
        rintro ⟨y, hy, he⟩
        exact hv (of_decide_eq_true he ▸ hy)
  · exact tre_nil
theorem pTr {b : Bool} : ∀ r H1 S1, (r = Bo b ∧ H1 = [] ∧ S1 = []) → stA r = true ∧ StH H1 ∧ StS S1 := by
  rintro r H S ⟨rfl, rfl, rfl⟩
  exact ⟨rfl, StH.nil, stS_nil⟩
theorem Entry_ok (l : List Ls) (hf : Few l) (ms : List Vt) (hms : ms.length < 1000000) (self : Int) (ps : List Pt) (hps : ps.length < 1000000) (hok : ∀ p ∈ ps, PtOk p) (src g : Int) : FnX Try.prog 36 [avMf (mapL l), rsV ms, I self, fsPt ps, I src, I g] [] [] (REnt (mapL l) ms self ps src g) := by
  have hvl : (vertsL l).length ≤ 2000 := map_vs hf
  have hsn : (mapL l).sn.length < 1000000 := by
    have := flat_len (snF_len l) (vertsL l)
    show ((vertsL l).flatMap (snF l)).length < _
    omega
  have hsb : (mapL l).sb.length < 100000000 := by
    have := flat_len (fun v => sbF_len hf v) (vertsL l)
    show ((vertsL l).flatMap (sbF l)).length < _
    omega
  have hwl : (mapL l).wl.length < 1000000 := by
    have := flat_len (fun v => wlF_len l v) (vertsL l)
    show ((vertsL l).flatMap (wlF l)).length < _
    omega
  have hPT := pTreeC_ok l hf src hsn hsb
  have hSr := pSource_ok (mapL l) src hsn hsb
  have hlt : (castT (mapL l) (srcF src (mapL l))).length < 1000000 := by
    unfold castT
    split
    · exact tree_lt hf _
    · exact (by decide : 0 < 1000000)
  have hT0 := tre_castT hf (srcF src (mapL l))
  show FnX _ _ _ _ _ (fun r H S => EntR (mapL l) ms ps g (srcF src (mapL l)) (castT (mapL l) (srcF src (mapL l))) (entP (srcF src (mapL l)) (castT (mapL l) (srcF src (mapL l))) self) r ∧ H = [] ∧ S = [])
  generalize castT (mapL l) (srcF src (mapL l)) = t at hPT hlt hT0 ⊢
  generalize srcF src (mapL l) = s at hSr ⊢
  generalize mapL l = m at hPT hSr hsn hsb hwl ⊢
  refine fnX_intro (T := TT) (n := 161) Try.func36 rfl rfl rfl (fun w X Z Y B => ?_)
  (repeat (first | refine r_end ?_ | (refine r_op ?_; first | refine r_pure hT rfl rfl rfl rfl rfl rfl ?_ | refine r_load hT rfl rfl rfl rfl rfl rfl rfl rfl rfl ?_ | refine r_box rfl rfl rfl rfl rfl rfl rfl rfl rfl ?_ | refine r_alloc hT rfl rfl rfl rfl rfl rfl rfl rfl rfl ?_) | refine gi_seq ?_ | refine gi_plain ?_))
  refine r_call (hSr) rfl rfl rfl rfl rfl rfl rfl rfl Try.func16 rfl rfl rfl pSrc ?_
  rintro r S1 ⟨rfl, rfl⟩
  (repeat (first | refine r_end ?_ | (refine r_op ?_; first | refine r_pure hT rfl rfl rfl rfl rfl rfl ?_ | refine r_load hT rfl rfl rfl rfl rfl rfl rfl rfl rfl ?_ | refine r_store hT rfl rfl rfl rfl rfl rfl rfl rfl rfl rfl ?_ | refine r_alloc hT rfl rfl rfl rfl rfl rfl rfl rfl rfl ?_) | refine gi_seq ?_ | refine gi_plain ?_))
  refine r_callX [] [] (hPT) rfl rfl rfl rfl rfl rfl Try.func18 rfl rfl rfl rfl rfl rfl rfl pNd ?_
  rintro r H1 S1 ⟨rfl, rfl, rfl⟩
  (repeat (first | refine r_end ?_ | (refine r_op ?_; refine r_pure hT rfl rfl rfl rfl rfl rfl ?_) | refine gi_seq ?_))
  refine gi_freeze 0 (L' := t.map Nd.row) rfl rfl ?_
  refine gi_weak (F' := [(18, fsNd t), (15, I s.p), (16, I s.b), (17, Bo s.ok), (6, .box 0 0), (12, .box 1 0), (1, rsV ms), (2, I self), (3, fsPt ps), (5, I g)]) (H' := [hMf m, hEt 0 0 0 0 (.r (.v (.slice none 0 0)))]) (S' := []) ⟨rfl, rfl, rfl, rfl, rfl, rfl, rfl, rfl, rfl, rfl, trivial⟩ ⟨rfl, rfl, trivial⟩ trivial rfl ?_
  (repeat (first | (refine r_op ?_; refine r_pure hT rfl rfl rfl rfl rfl rfl ?_) | refine gi_plain ?_))
  refine r_thaw 41 rfl ?_
  refine r_call (pPlace_ok t ⟨1, self⟩ hlt) rfl rfl rfl rfl rfl rfl rfl rfl Try.func61 rfl rfl rfl pI ?_
  rintro r S1 ⟨rfl, rfl⟩
  (repeat (first | refine r_end ?_ | (refine r_op ?_; refine r_pure hT rfl rfl rfl rfl rfl rfl ?_) | refine gi_seq ?_ | refine gi_plain ?_))
  refine r_case (d := 47) rfl (fun c1 => ?_) (fun c1 => ?_)
  · have hne : entP s t self = none := by unfold entP; rw [notB_eq] at c1; cases hs : s.ok with
      | true => rw [hs] at c1; cases c1
      | false => rfl
    (repeat (first | refine r_end ?_ | (refine r_op ?_; first | refine r_pure hT rfl rfl rfl rfl rfl rfl ?_ | refine r_store hT rfl rfl rfl rfl rfl rfl rfl rfl rfl rfl ?_ | refine r_off rfl rfl rfl rfl rfl ?_) | refine gi_seq ?_ | refine gi_plain ?_ | (refine gi_cnd ?_; first | refine gi_true rfl ?_ | refine gi_false rfl ?_)))
    refine gi_nilH 1 4 2 rfl rfl ?_
    refine gi_retX hT Try.func36 rfl [] [] rfl rfl rfl rfl rfl rfl rfl rfl ?_
    exact ⟨by rw [hne]; rfl, rfl, rfl⟩
  have hpl : entP s t self = placeL t ⟨1, self⟩ := by unfold entP; rw [notB_eq] at c1; cases hs : s.ok with
      | true => rfl
      | false => rw [hs] at c1; cases c1
  rw [hpl]
  (repeat (first | refine r_end ?_ | (refine r_op ?_; refine r_pure hT rfl rfl rfl rfl rfl rfl ?_)))
  cases hp : placeL t ⟨1, self⟩ with
  | none =>
    refine gi_known (d := 50) (b := true) rfl (by rw [ltB_eq]; rfl) ?_
    (repeat (first | refine r_end ?_ | (refine r_op ?_; first | refine r_pure hT rfl rfl rfl rfl rfl rfl ?_ | refine r_store hT rfl rfl rfl rfl rfl rfl rfl rfl rfl rfl ?_) | refine gi_seq ?_ | refine gi_plain ?_ | (refine gi_cnd ?_; first | refine gi_true rfl ?_ | refine gi_false rfl ?_)))
    refine gi_nilH 1 4 2 rfl rfl ?_
    refine gi_retX hT Try.func36 rfl [] [] rfl rfl rfl rfl rfl rfl rfl rfl ?_
    exact ⟨rfl, rfl, rfl⟩
  | some a =>
    obtain ⟨n, hn, hnv⟩ := placeL_some hp
    have hal := (List.getElem?_eq_some_iff.1 hn).1
    refine gi_known (d := 50) (b := false) rfl (by rw [ltB_eq]; exact decide_eq_false (by show ¬ ((a : Nat) : Int) < 0; omega)) ?_
    (repeat (first | refine gi_seq ?_ | refine gi_skip ?_ | (refine gi_cnd ?_; first | refine gi_true rfl ?_ | refine gi_false rfl ?_)))
    refine gi_weak (F' := [(19, I (a : Int)), (18, fsNd t), (15, I s.p), (16, I s.b), (6, .box 0 0), (12, .box 1 0), (1, rsV ms), (3, fsPt ps), (5, I g)]) (H' := [hMf m, hEt 0 0 0 0 (.r (.v (.slice none 0 0)))]) (S' := []) ⟨rfl, rfl, rfl, rfl, rfl, rfl, rfl, rfl, rfl, trivial⟩ ⟨rfl, rfl, trivial⟩ trivial rfl ?_
    (repeat (first | (refine r_op ?_; refine r_pure hT rfl rfl rfl rfl rfl rfl ?_) | refine gi_plain ?_))
    refine r_thaw 55 rfl ?_
    refine r_call (up_ok t hT0 a n hn ps hps s.p s.b) rfl rfl rfl rfl rfl rfl rfl rfl Try.func71 rfl rfl rfl pI ?_
    rintro r S1 ⟨rfl, rfl⟩
    obtain ⟨up, hup⟩ : ∃ up, up = upF t n ps s.p s.b := ⟨_, rfl⟩
    rw [← hup]
    (repeat (first | refine r_end ?_ | (refine r_op ?_; first | refine r_pure hT rfl rfl rfl rfl rfl rfl ?_ | refine r_load hT rfl rfl rfl rfl rfl rfl rfl rfl rfl ?_ | refine r_store hT rfl rfl rfl rfl rfl rfl rfl rfl rfl rfl ?_ | refine r_alloc hT rfl rfl rfl rfl rfl rfl rfl rfl rfl ?_) | refine gi_seq ?_ | refine gi_plain ?_))
    refine r_callX [] [] (pReach_ok t m ms hlt hwl hms) rfl rfl rfl rfl rfl rfl Try.func23 rfl rfl rfl rfl rfl rfl rfl pRch ?_
    rintro r H1 S1 ⟨rfl, rfl, o, rfl, hA⟩
    have hol := hA.lo
    (repeat (first | refine r_end ?_ | (refine r_op ?_; refine r_pure hT rfl rfl rfl rfl rfl rfl ?_) | refine gi_seq ?_ | refine gi_plain_ne 9 rfl ?_))
    refine gi_freeze 0 (L' := o.map nRow) rfl rfl ?_
    refine gi_thaw 21 rfl ?_
    refine gi_thaw 18 rfl ?_
    refine gi_pick [0, 1, 2] [] rfl rfl rfl rfl rfl ?_
    refine gi_adopt (e := 90) (sz := 2) 22 rfl ?_
    refine gi_adoptH (e := 90) (sz := 2) 2 4 rfl rfl ?_
    refine gi_weak (F' := [(22, .sl 0), (21, rsN o), (20, .box 2 0), (19, I (a : Int)), (18, rsNd t), (12, .box 1 0), (3, fsPt ps), (5, I g)]) (H' := [hMf m, hEt 0 0 0 0 (.r (.v (.slice none 0 0))), hEt s.p s.b g up (.sl 1)]) (S' := [eOt [], eOt []]) ⟨rfl, rfl, rfl, rfl, rfl, rfl, rfl, rfl, trivial⟩ ⟨rfl, rfl, rfl, trivial⟩ ⟨rfl, rfl, trivial⟩ rfl ?_
    obtain ⟨Z, hZ⟩ : ∃ Z, Z = t.zip o := ⟨_, rfl⟩
    have hZe : ∀ (i : Nat) (x : Nd) (y : Int), t[i]? = some x → o[i]? = some y → Z[i]? = some (x, y) := fun i x y h1 h2 => by rw [hZ]; exact List.getElem?_zip_eq_some.2 ⟨h1, h2⟩
    have hZt : Z.length = t.length := by rw [hZ, List.length_zip, hol, Nat.min_self]
    have hZl : ∀ j, ((Z.take j).flatMap (out1 a)).length < 1000000 := fun j => by
      have h1 := flat_len (out1_len a) (Z.take j)
      rw [List.length_take] at h1
      omega
    (repeat (first | refine r_end ?_ | (refine r_op ?_; refine r_pure hT rfl rfl rfl rfl rfl rfl ?_) | refine gi_plain ?_ | refine gi_block ?_))
    refine gi_loop (σ := Nat) (fun j => [(68, I (j : Int)), (67, I (t.length : Int)), (66, rsNd t), (22, .sl 0), (21, rsN o), (20, .box 2 0), (19, I (a : Int)), (12, .box 1 0), (3, fsPt ps), (5, I g)]) (fun _ => [hMf m, hEt 0 0 0 0 (.r (.v (.slice none 0 0))), hEt s.p s.b g up (.sl 1)]) (fun j => [eOt ((Z.take j).flatMap (out1 a)), eOt []]) (fun j => j ≤ t.length) (fun j => t.length - j) 0 (Nat.zero_le _) ⟨rfl, by show some (I ((t.map Nd.row).length : Nat)) = _; rw [List.length_map], rfl, rfl, rfl, rfl, rfl, rfl, rfl, rfl, trivial⟩ ⟨rfl, rfl, rfl, trivial⟩ ⟨rfl, rfl, trivial⟩ (fun _ => rfl) (fun j hj next => ?_)
    have hj : j ≤ t.length := hj
    (repeat (first | refine r_end ?_ | (refine r_op ?_; refine r_pure hT rfl rfl rfl rfl rfl rfl ?_) | refine gi_seq ?_ | refine gi_plain ?_))
    refine gi_lt rfl (fun h3 => ?_) (fun h3 => ?_)
    · have hjl : j < t.length := by omega
      obtain ⟨x, hx⟩ : ∃ x, t[j]? = some x := ⟨_, List.getElem?_eq_getElem hjl⟩
      obtain ⟨y, hy⟩ : ∃ y, o[j]? = some y := ⟨_, List.getElem?_eq_getElem (by omega)⟩
      have hst := flat_take (out1 a) (hZe j x y hx hy)
      have hlj := hZl j
      have on : ∀ L, (Z.take j).flatMap (out1 a) ++ out1 a (x, y) = L → ∀ F1 H1 S1, SubF [(68, I (wr .i64 ((j : Int) + 1))), (67, I (t.length : Int)), (66, rsNd t), (22, .sl 0), (21, rsN o), (20, .box 2 0), (19, I (a : Int)), (12, .box 1 0), (3, fsPt ps), (5, I g)] F1 → SubH [hMf m, hEt 0 0 0 0 (.r (.v (.slice none 0 0))), hEt s.p s.b g up (.sl 1)] H1 → SubS [eOt L, eOt []] S1 → GI _ _ F1 H1 S1 := fun L hL F1 H1 S1 hF hH hS => by
        refine next (j + 1) F1 H1 S1 hjl (by omega) ?_ hH ?_
        · rw [wadd1 (by omega)] at hF; exact hF
        · rw [hst, hL]; exact hS
      clear next
      have ho : out1 a (x, y) = out1 a (x, y) := rfl
      conv at ho => rhs; unfold out1
      (repeat (first | (refine r_op ?_; refine r_pure hT rfl rfl rfl rfl rfl rfl ?_) | refine gi_seq ?_ | refine gi_plain ?_ | refine gi_skip ?_ | refine gi_block ?_))
      refine r_idx (row := x.row) hT rfl rfl rfl rfl rfl rfl rfl rfl rfl rfl rfl rfl (nn j) (by simp [hx]) ?_
      (repeat (first | refine r_end ?_ | (refine r_op ?_; first | refine r_pure hT rfl rfl rfl rfl rfl rfl ?_ | refine r_load hT rfl rfl rfl rfl rfl rfl rfl rfl rfl ?_ | refine r_store hT rfl rfl rfl rfl rfl rfl rfl rfl rfl rfl ?_ | refine r_alloc hT rfl rfl rfl rfl rfl rfl rfl rfl rfl ?_) | refine gi_seq ?_ | refine gi_plain ?_))
      refine r_idx (row := nRow y) hT rfl rfl rfl rfl rfl rfl rfl rfl rfl rfl rfl rfl (nn j) (by simp [hy]) ?_
      (repeat (first | refine r_end ?_ | (refine r_op ?_; first | refine r_pure hT rfl rfl rfl rfl rfl rfl ?_ | refine r_load hT rfl rfl rfl rfl rfl rfl rfl rfl rfl ?_) | refine gi_seq ?_ | refine gi_plain ?_ | refine gi_block ?_))
      refine r_case (d := 82) rfl (fun c2 => ?_) (fun c2 => ?_)
      · have ho : out1 a (x, y) = [] := by
          rw [ho]
          show (match notB (eqB x.p a) || ltB y 0 with | true => [] | false => _) = _
          rw [c2]; rfl
        (repeat (first | refine r_end ?_ | (refine r_op ?_; first | refine r_pure hT rfl rfl rfl rfl rfl rfl ?_ | refine r_off rfl rfl rfl rfl rfl ?_) | refine gi_seq ?_ | refine gi_plain ?_ | refine gi_exit rfl ?_ | (refine gi_cnd ?_; first | refine gi_true rfl ?_ | refine gi_false rfl ?_)))
        refine on _ (by rw [ho, List.append_nil]) _ _ _ ⟨rfl, rfl, rfl, rfl, rfl, rfl, rfl, rfl, rfl, rfl, trivial⟩ ⟨rfl, rfl, rfl, trivial⟩ ⟨rfl, rfl, trivial⟩
      (repeat (first | refine r_end ?_ | (refine r_op ?_; refine r_pure hT rfl rfl rfl rfl rfl rfl ?_)))
      refine gi_cond rfl (fun c3 => ?_) (fun c3 => ?_)
      · have ho : out1 a (x, y) = [] := by
          rw [ho]
          show (match notB (eqB x.p a) || ltB y 0 with | true => [] | false => _) = _
          rw [c2, c3]; rfl
        (repeat (first | refine r_end ?_ | (refine r_op ?_; refine r_pure hT rfl rfl rfl rfl rfl rfl ?_) | refine gi_seq ?_ | refine gi_plain ?_ | refine gi_exit rfl ?_))
        refine on _ (by rw [ho, List.append_nil]) _ _ _ ⟨rfl, rfl, rfl, rfl, rfl, rfl, rfl, rfl, rfl, rfl, trivial⟩ ⟨rfl, rfl, rfl, trivial⟩ ⟨rfl, rfl, trivial⟩
      have ho : out1 a (x, y) = [⟨x.d, match eqB x.v.k 1 with | true => wr .i64 (y + 1) | false => y⟩] := by
        rw [ho]
        show (match notB (eqB x.p a) || ltB y 0 with | true => [] | false => _) = _
        rw [c2, c3]; rfl
      (repeat (first | refine r_end ?_ | (refine r_op ?_; first | refine r_pure hT rfl rfl rfl rfl rfl rfl ?_ | refine r_load hT rfl rfl rfl rfl rfl rfl rfl rfl rfl ?_) | refine gi_seq ?_ | refine gi_plain ?_ | refine gi_skip ?_))
      refine gi_cond rfl (fun c4 => ?_) (fun c4 => ?_)
      · have ho : out1 a (x, y) = [⟨x.d, wr .i64 (y + 1)⟩] := by rw [ho, c4]
        (repeat (first | refine r_end ?_ | (refine r_op ?_; first | refine r_pure hT rfl rfl rfl rfl rfl rfl ?_ | refine r_load hT rfl rfl rfl rfl rfl rfl rfl rfl rfl ?_ | refine r_lit hT rfl rfl rfl rfl rfl rfl rfl rfl rfl rfl rfl rfl rfl ?_) | refine gi_seq ?_ | refine gi_plain ?_ | refine gi_inBlock ?_ | refine gi_exit rfl ?_))
        refine r_append hT rfl rfl rfl rfl rfl rfl rfl rfl rfl rfl rfl rfl rfl rfl rfl rfl rfl (by simp only [List.length_cons, List.length_nil, List.length_map, maxLen]; exact ⟨by omega, by show _ * 16 ≤ _; omega⟩) ?_
        (repeat (first | refine r_end ?_ | (refine r_op ?_; refine r_pure hT rfl rfl rfl rfl rfl rfl ?_) | refine gi_plain ?_ | refine gi_inBlock ?_ | refine gi_exit rfl ?_))
        refine on ((Z.take j).flatMap (out1 a) ++ [⟨x.d, wr .i64 (y + 1)⟩]) (by rw [ho]) _ _ _ ⟨rfl, rfl, rfl, rfl, rfl, rfl, rfl, rfl, rfl, rfl, trivial⟩ ⟨rfl, rfl, rfl, trivial⟩ ⟨by rw [eOt, seOt, List.map_append]; rfl, rfl, trivial⟩
      · have ho : out1 a (x, y) = [⟨x.d, y⟩] := by rw [ho, c4]
        (repeat (first | (refine r_op ?_; first | refine r_pure hT rfl rfl rfl rfl rfl rfl ?_ | refine r_load hT rfl rfl rfl rfl rfl rfl rfl rfl rfl ?_ | refine r_lit hT rfl rfl rfl rfl rfl rfl rfl rfl rfl rfl rfl rfl rfl ?_) | refine gi_seq ?_ | refine gi_plain ?_ | refine gi_skip ?_ | refine gi_exit rfl ?_))
        refine r_append hT rfl rfl rfl rfl rfl rfl rfl rfl rfl rfl rfl rfl rfl rfl rfl rfl rfl (by simp only [List.length_cons, List.length_nil, List.length_map, maxLen]; exact ⟨by omega, by show _ * 16 ≤ _; omega⟩) ?_
        (repeat (first | refine r_end ?_ | (refine r_op ?_; refine r_pure hT rfl rfl rfl rfl rfl rfl ?_) | refine gi_plain ?_ | refine gi_inBlock ?_ | refine gi_exit rfl ?_))
        refine on ((Z.take j).flatMap (out1 a) ++ [⟨x.d, y⟩]) (by rw [ho]) _ _ _ ⟨rfl, rfl, rfl, rfl, rfl, rfl, rfl, rfl, rfl, rfl, trivial⟩ ⟨rfl, rfl, rfl, trivial⟩ ⟨by rw [eOt, seOt, List.map_append]; rfl, rfl, trivial⟩
    have hje : j = Z.length := by omega
    subst hje
    rw [List.take_length]
    have hAl := hZl Z.length
    rw [List.take_length] at hAl
    obtain ⟨A, hA0⟩ : ∃ A, A = Z.flatMap (out1 a) := ⟨_, rfl⟩
    rw [← hA0] at hAl ⊢
    clear next hZl hZe
    (repeat (first | refine gi_seq ?_ | refine gi_exit rfl ?_))
    refine gi_weak (F' := [(22, .sl 0), (20, .box 2 0), (12, .box 1 0), (3, fsPt ps), (5, I g)]) (H' := [hMf m, hEt 0 0 0 0 (.r (.v (.slice none 0 0))), hEt s.p s.b g up (.sl 1)]) (S' := [eOt A, eOt []]) ⟨rfl, rfl, rfl, rfl, rfl, trivial⟩ ⟨rfl, rfl, rfl, trivial⟩ ⟨rfl, rfl, trivial⟩ rfl ?_
    (repeat (first | refine r_end ?_ | (refine r_op ?_; refine r_pure hT rfl rfl rfl rfl rfl rfl ?_) | refine gi_plain ?_ | refine gi_block ?_))
    refine gi_thaw 101 rfl ?_
    refine gi_loop (σ := Nat) (fun j => [(103, I (j : Int)), (102, I (ps.length : Int)), (101, rsPt ps), (22, .sl 0), (20, .box 2 0), (12, .box 1 0), (5, I g)]) (fun _ => [hMf m, hEt 0 0 0 0 (.r (.v (.slice none 0 0))), hEt s.p s.b g up (.sl 1)]) (fun j => [eOt (A ++ (ps.take j).flatMap (out2 g)), eOt []]) (fun j => j ≤ ps.length) (fun j => ps.length - j) 0 (Nat.zero_le _) ⟨rfl, by show some (I ((ps.map Pt.row).length : Nat)) = _; rw [List.length_map], rfl, rfl, rfl, rfl, rfl, trivial⟩ ⟨rfl, rfl, rfl, trivial⟩ ⟨by rw [List.take_zero, List.flatMap_nil, List.append_nil], rfl, trivial⟩ (fun _ => rfl) (fun j hj next => ?_)
    have hj : j ≤ ps.length := hj
    have hlp : ∀ j, (A ++ (ps.take j).flatMap (out2 g)).length < 3000000 := fun j => by
      have h1 := flat_len (out2_len g) (ps.take j)
      rw [List.length_take] at h1
      rw [List.length_append]
      omega
    (repeat (first | refine r_end ?_ | (refine r_op ?_; refine r_pure hT rfl rfl rfl rfl rfl rfl ?_) | refine gi_seq ?_ | refine gi_plain ?_))
    refine gi_lt rfl (fun h3 => ?_) (fun h3 => ?_)
    · have hjl : j < ps.length := by omega
      obtain ⟨p, hpj⟩ : ∃ x, ps[j]? = some x := ⟨_, List.getElem?_eq_getElem hjl⟩
      have hpk := hok p (List.mem_of_getElem? hpj)
      have hst := flat_take (out2 g) hpj
      have hlj := hlp j
      have on : ∀ L, A ++ (ps.take j).flatMap (out2 g) ++ out2 g p = L → ∀ F1 H1 S1, SubF [(103, I (wr .i64 ((j : Int) + 1))), (102, I (ps.length : Int)), (101, rsPt ps), (22, .sl 0), (20, .box 2 0), (12, .box 1 0), (5, I g)] F1 → SubH [hMf m, hEt 0 0 0 0 (.r (.v (.slice none 0 0))), hEt s.p s.b g up (.sl 1)] H1 → SubS [eOt L, eOt []] S1 → GI _ _ F1 H1 S1 := fun L hL F1 H1 S1 hF hH hS => by
        refine next (j + 1) F1 H1 S1 hjl (by omega) ?_ hH ?_
        · rw [wadd1 (by omega)] at hF; exact hF
        · rw [hst, ← List.append_assoc, hL]; exact hS
      clear next hlp
      generalize A ++ (ps.take j).flatMap (out2 g) = B at on hlj ⊢
      have ho : out2 g p = out2 g p := rfl
      conv at ho => rhs; unfold out2
      (repeat (first | refine gi_seq ?_ | refine gi_plain ?_ | refine gi_skip ?_ | refine gi_block ?_))
      refine r_idx (row := p.row) hT rfl rfl rfl rfl rfl rfl rfl rfl rfl rfl rfl rfl (nn j) (by simp [hpj]) ?_
      (repeat (first | refine r_end ?_ | (refine r_op ?_; first | refine r_load hT rfl rfl rfl rfl rfl rfl rfl rfl rfl ?_ | refine r_store hT rfl rfl rfl rfl rfl rfl rfl rfl rfl rfl ?_ | refine r_alloc hT rfl rfl rfl rfl rfl rfl rfl rfl rfl ?_) | refine gi_seq ?_ | refine gi_plain ?_))
      refine r_callX [] [] (Transit_ok p hpk) rfl rfl rfl rfl rfl rfl Try.func72 rfl rfl rfl rfl rfl rfl rfl pTr ?_
      rintro r H1 S1 ⟨rfl, rfl, rfl⟩
      (repeat ((refine r_op ?_; refine r_pure hT rfl rfl rfl rfl rfl rfl ?_)))
      refine r_case (d := 110) rfl (fun c2 => ?_) (fun c2 => ?_)
      · rw [c2] at ho
        (repeat ((refine r_op ?_; first | refine r_pure hT rfl rfl rfl rfl rfl rfl ?_ | refine r_load hT rfl rfl rfl rfl rfl rfl rfl rfl rfl ?_)))
        refine r_thaw 112 rfl ?_
        refine r_call (ContainsI_ok p.gs g hpk.2) rfl rfl rfl rfl rfl rfl rfl rfl Try.func54 rfl rfl rfl pB ?_
        rintro r S1 ⟨rfl, rfl⟩
        (repeat (first | refine r_end ?_ | (refine r_op ?_; refine r_pure hT rfl rfl rfl rfl rfl rfl ?_)))
        refine gi_cond rfl (fun c3 => ?_) (fun c3 => ?_)
        · rw [c3] at ho
          have ho : out2 g p = [⟨p.a, 1⟩] := ho
          (repeat (first | (refine r_op ?_; first | refine r_pure hT rfl rfl rfl rfl rfl rfl ?_ | refine r_load hT rfl rfl rfl rfl rfl rfl rfl rfl rfl ?_ | refine r_lit hT rfl rfl rfl rfl rfl rfl rfl rfl rfl rfl rfl rfl rfl ?_) | refine gi_plain ?_))
          refine r_append hT rfl rfl rfl rfl rfl rfl rfl rfl rfl rfl rfl rfl rfl rfl rfl rfl rfl (by simp only [List.length_cons, List.length_nil, List.length_map, maxLen]; exact ⟨by omega, by show _ * 16 ≤ _; omega⟩) ?_
          (repeat (first | refine r_end ?_ | (refine r_op ?_; refine r_pure hT rfl rfl rfl rfl rfl rfl ?_) | refine gi_plain ?_ | refine gi_inBlock ?_))
          refine on (B ++ [⟨p.a, 1⟩]) (by rw [ho]) _ _ _ ⟨rfl, rfl, rfl, rfl, rfl, rfl, rfl, trivial⟩ ⟨rfl, rfl, rfl, trivial⟩ ⟨by rw [eOt, seOt, List.map_append]; rfl, rfl, trivial⟩
        · rw [c3] at ho
          have ho : out2 g p = [] := ho
          (repeat (first | refine r_end ?_ | (refine r_op ?_; refine r_pure hT rfl rfl rfl rfl rfl rfl ?_) | refine gi_plain ?_ | refine gi_skip ?_ | refine gi_inBlock ?_))
          refine on _ (by rw [ho, List.append_nil]) _ _ _ ⟨rfl, rfl, rfl, rfl, rfl, rfl, rfl, trivial⟩ ⟨rfl, rfl, rfl, trivial⟩ ⟨rfl, rfl, trivial⟩
      · rw [c2] at ho
        have ho : out2 g p = [] := ho
        (repeat (first | refine r_end ?_ | (refine r_op ?_; first | refine r_pure hT rfl rfl rfl rfl rfl rfl ?_ | refine r_off rfl rfl rfl rfl rfl ?_) | refine gi_plain ?_ | refine gi_skip ?_ | refine gi_inBlock ?_ | (refine gi_cnd ?_; first | refine gi_true rfl ?_ | refine gi_false rfl ?_)))
        refine on _ (by rw [ho, List.append_nil]) _ _ _ ⟨rfl, rfl, rfl, rfl, rfl, rfl, rfl, trivial⟩ ⟨rfl, rfl, rfl, trivial⟩ ⟨rfl, rfl, trivial⟩
    have hje : j = ps.length := by omega
    subst hje
    rw [List.take_length]
    have hLl := hlp ps.length
    rw [List.take_length] at hLl
    clear next hlp
    have hO0 : outs0 t a o ps g = A ++ ps.flatMap (out2 g) := by unfold outs0; rw [hA0, hZ]
    generalize A ++ ps.flatMap (out2 g) = O at hLl hO0 ⊢
    apply gi_cut (σ := List Ot) (fun _ => [(22, .sl 0), (20, .box 2 0), (12, .box 1 0)]) (fun _ => [hMf m, hEt 0 0 0 0 (.r (.v (.slice none 0 0))), hEt s.p s.b g up (.sl 1)]) (fun L => [eOt L, eOt []]) (fun L => L.Perm O ∧ SrtO L) (fun _ => rfl)
    case first =>
      intro fin
      (repeat (first | refine gi_seq ?_ | refine gi_exit rfl ?_))
      refine gi_weak (F' := [(22, .sl 0), (20, .box 2 0), (12, .box 1 0)]) (H' := [hMf m, hEt 0 0 0 0 (.r (.v (.slice none 0 0))), hEt s.p s.b g up (.sl 1)]) (S' := [eOt O, eOt []]) ⟨rfl, rfl, rfl, trivial⟩ ⟨rfl, rfl, rfl, trivial⟩ ⟨rfl, rfl, trivial⟩ rfl ?_
      (repeat (first | (refine r_op ?_; refine r_pure hT rfl rfl rfl rfl rfl rfl ?_) | refine gi_plain ?_))
      by_cases hne : O = []
      · subst hne
        refine r_call (sort0_ok) rfl rfl rfl rfl rfl rfl rfl rfl Try.func73 rfl rfl rfl pT0 ?_
        rintro r S1 ⟨rfl, rfl⟩
        (repeat (first | refine r_end ?_ | refine gi_seq ?_))
        exact fin [] _ _ _ ⟨List.Perm.refl _, SrtO.nil⟩ ⟨rfl, rfl, rfl, trivial⟩ ⟨rfl, rfl, rfl, trivial⟩ ⟨rfl, rfl, trivial⟩
      refine r_sortO (kn := 0) O rfl (by omega) hne rfl rfl rfl rfl rfl rfl rfl (fun L h1 h2 => ?_)
      (repeat (first | refine r_end ?_ | refine gi_seq ?_))
      exact fin L _ _ _ ⟨h1, h2⟩ ⟨rfl, rfl, rfl, trivial⟩ ⟨rfl, rfl, rfl, trivial⟩ ⟨rfl, rfl, trivial⟩
    case after =>
      intro L hL
      obtain ⟨hL1, hL2⟩ := hL
      have hEn := uq_ent hL1 hL2 up
      have hLl : L.length < 3000000 := by rw [hL1.length_eq]; exact hLl
      rw [← hO0] at hEn
      skip
      refine gi_weak (F' := [(22, .sl 0), (20, .box 2 0), (12, .box 1 0)]) (H' := [hMf m, hEt 0 0 0 0 (.r (.v (.slice none 0 0))), hEt s.p s.b g up (.sl 1)]) (S' := [eOt L, eOt []]) ⟨rfl, rfl, rfl, trivial⟩ ⟨rfl, rfl, rfl, trivial⟩ ⟨rfl, rfl, trivial⟩ rfl ?_
      (repeat (first | refine r_end ?_ | (refine r_op ?_; refine r_pure hT rfl rfl rfl rfl rfl rfl ?_) | refine gi_plain ?_ | refine gi_block ?_))
      refine gi_loop (σ := Nat) (fun j => [(128, I (j : Int)), (127, I (L.length : Int)), (126, .sl 0), (22, .sl 0), (20, .box 2 0), (12, .box 1 0)]) (fun _ => [hMf m, hEt 0 0 0 0 (.r (.v (.slice none 0 0))), hEt s.p s.b g up (.sl 1)]) (fun j => [eOt L, eOt (uqN up L j)]) (fun j => j ≤ L.length) (fun j => L.length - j) 0 (Nat.zero_le _) ⟨rfl, by show some (I ((L.map Ot.row).length : Nat)) = _; rw [List.length_map], rfl, rfl, rfl, rfl, trivial⟩ ⟨rfl, rfl, rfl, trivial⟩ ⟨rfl, rfl, trivial⟩ (fun _ => rfl) (fun j hj next => ?_)
      have hj : j ≤ L.length := hj
      have huq := uqN_len up L j
      (repeat (first | refine r_end ?_ | (refine r_op ?_; refine r_pure hT rfl rfl rfl rfl rfl rfl ?_) | refine gi_seq ?_ | refine gi_plain ?_))
      refine gi_lt rfl (fun h3 => ?_) (fun h3 => ?_)
      · have hjl : j < L.length := by omega
        obtain ⟨x, hx⟩ : ∃ x, L[j]? = some x := ⟨_, List.getElem?_eq_getElem hjl⟩
        have hst := uqN_step (up := up) hx
        have on : ∀ b, kpB up L j x = b → ∀ F1 H1 S1, SubF [(128, I (wr .i64 ((j : Int) + 1))), (127, I (L.length : Int)), (126, .sl 0), (22, .sl 0), (20, .box 2 0), (12, .box 1 0)] F1 → SubH [hMf m, hEt 0 0 0 0 (.r (.v (.slice none 0 0))), hEt s.p s.b g up (.sl 1)] H1 → SubS [eOt L, eOt (uqN up L j ++ (match b with | true => [x] | false => []))] S1 → GI _ _ F1 H1 S1 := fun b hb F1 H1 S1 hF hH hS => by
          refine next (j + 1) F1 H1 S1 hjl (by omega) ?_ hH ?_
          · rw [wadd1 (by omega)] at hF; exact hF
          · rw [hst, hb]; exact hS
        clear next
        have ho : kpB up L j x = kpB up L j x := rfl
        conv at ho => rhs; unfold kpB
        (repeat (first | (refine r_op ?_; refine r_pure hT rfl rfl rfl rfl rfl rfl ?_) | refine gi_seq ?_ | refine gi_plain ?_ | refine gi_skip ?_ | refine gi_block ?_))
        refine r_idxS hT rfl rfl rfl rfl rfl rfl rfl rfl rfl rfl rfl rfl rfl (nn j) (by show j < (L.map Ot.row).length; rw [List.length_map]; exact hjl) ?_
        skip
        refine r_loadS (row := x.row) hT rfl rfl rfl rfl rfl rfl rfl rfl (by show (L.map Ot.row)[j]? = _; rw [List.getElem?_map, hx]; rfl) rfl rfl rfl ?_
        (repeat (first | refine r_end ?_ | (refine r_op ?_; first | refine r_pure hT rfl rfl rfl rfl rfl rfl ?_ | refine r_store hT rfl rfl rfl rfl rfl rfl rfl rfl rfl rfl ?_ | refine r_alloc hT rfl rfl rfl rfl rfl rfl rfl rfl rfl ?_) | refine gi_seq ?_))
        refine gi_drawM [] [(0, .p), (2, .p), (1, .t), (3, .t), (4, .p), (5, .p), (6, .p), (7, .p), (8, .p), (9, .p), (10, .p), (11, .p), (12, .p), (13, .p), (15, .p), (14, .t), (16, .t), (17, .p), (18, .p), (19, .p)] [0, 1, 0, 4, 10, 16, 32, 96, 160, 256, 256, 1280, 2816, 4352, 8448, 256, 33024, 82176, 131360, 262176] [0, 1, 0, 4, 10, 16, 32, 96, 160, 256, 256, 1280, 2816, 4352, 8448, 256, 33024, 82176, 131360, 262176] Kt.hm rfl (by kernel_rfl) (fun w1 K => ?_)
        (repeat ((refine r_op ?_; first | refine r_pure hT rfl rfl rfl rfl rfl rfl ?_ | refine r_load hT rfl rfl rfl rfl rfl rfl rfl rfl rfl ?_)))
        refine r_case (d := 138) rfl (fun c2 => ?_) (fun c2 => ?_)
        · rw [c2] at ho
          (repeat ((refine r_op ?_; refine r_pure hT rfl rfl rfl rfl rfl rfl ?_)))
          refine r_case (d := 141) rfl (fun c3 => ?_) (fun c3 => ?_)
          · rw [c3] at ho
            have ho : kpB up L j x = true := ho
            (repeat (first | refine r_end ?_ | (refine r_op ?_; first | refine r_pure hT rfl rfl rfl rfl rfl rfl ?_ | refine r_load hT rfl rfl rfl rfl rfl rfl rfl rfl rfl ?_ | refine r_off rfl rfl rfl rfl rfl ?_ | refine r_lit hT rfl rfl rfl rfl rfl rfl rfl rfl rfl rfl rfl rfl rfl ?_) | refine gi_plain ?_ | (refine gi_cnd ?_; first | refine gi_true rfl ?_ | refine gi_false rfl ?_)))
            refine r_append hT rfl rfl rfl rfl rfl rfl rfl rfl rfl rfl rfl rfl rfl rfl rfl rfl rfl (by simp only [List.length_cons, List.length_nil, List.length_map, maxLen]; exact ⟨by omega, by show _ * 16 ≤ _; omega⟩) ?_
            (repeat (first | refine r_end ?_ | (refine r_op ?_; first | refine r_pure hT rfl rfl rfl rfl rfl rfl ?_ | refine r_store hT rfl rfl rfl rfl rfl rfl rfl rfl rfl rfl ?_) | refine gi_plain ?_ | refine gi_inBlock ?_))
            refine on true ho _ _ _ ⟨rfl, rfl, rfl, rfl, rfl, rfl, trivial⟩ ⟨rfl, rfl, rfl, trivial⟩ ⟨rfl, by rw [eOt, seOt, List.map_append]; rfl, trivial⟩
          · rw [c3] at ho
            rw [eqB_eq] at c3
            have c3 := of_decide_eq_false c3
            obtain ⟨y, hy⟩ : ∃ x, L[j - 1]? = some x := ⟨_, List.getElem?_eq_getElem (by omega)⟩
            have ho : kpB up L j x = notB (eqB y.a x.a) := by
              rw [ho, List.getD_eq_getElem?_getD, hy]; rfl
            (repeat ((refine r_op ?_; refine r_pure hT rfl rfl rfl rfl rfl rfl ?_)))
            refine r_turn (d := 144) (y := I ((j - 1 : Nat) : Int)) rfl (by rw [wr_i64 (by omega) (by omega)]; congr 3; omega) ?_
            refine r_idxS hT rfl rfl rfl rfl rfl rfl rfl rfl rfl rfl rfl rfl rfl (nn (j - 1)) (by show j - 1 < (L.map Ot.row).length; rw [List.length_map]; omega) ?_
            (repeat ((refine r_op ?_; refine r_pure hT rfl rfl rfl rfl rfl rfl ?_)))
            refine r_loadS (row := y.row) hT rfl rfl rfl rfl rfl rfl rfl rfl (by show (L.map Ot.row)[j - 1]? = _; rw [List.getElem?_map, hy]; rfl) rfl rfl rfl ?_
            (repeat (first | refine r_end ?_ | (refine r_op ?_; first | refine r_pure hT rfl rfl rfl rfl rfl rfl ?_ | refine r_load hT rfl rfl rfl rfl rfl rfl rfl rfl rfl ?_)))
            refine gi_cond rfl (fun c4 => ?_) (fun c4 => ?_)
            · rw [c4] at ho
              (repeat (first | (refine r_op ?_; first | refine r_pure hT rfl rfl rfl rfl rfl rfl ?_ | refine r_load hT rfl rfl rfl rfl rfl rfl rfl rfl rfl ?_ | refine r_lit hT rfl rfl rfl rfl rfl rfl rfl rfl rfl rfl rfl rfl rfl ?_) | refine gi_plain ?_))
              refine r_append hT rfl rfl rfl rfl rfl rfl rfl rfl rfl rfl rfl rfl rfl rfl rfl rfl rfl (by simp only [List.length_cons, List.length_nil, List.length_map, maxLen]; exact ⟨by omega, by show _ * 16 ≤ _; omega⟩) ?_
              (repeat (first | refine r_end ?_ | (refine r_op ?_; first | refine r_pure hT rfl rfl rfl rfl rfl rfl ?_ | refine r_store hT rfl rfl rfl rfl rfl rfl rfl rfl rfl rfl ?_) | refine gi_plain ?_ | refine gi_inBlock ?_))
              refine on true ho _ _ _ ⟨rfl, rfl, rfl, rfl, rfl, rfl, trivial⟩ ⟨rfl, rfl, rfl, trivial⟩ ⟨rfl, by rw [eOt, seOt, List.map_append]; rfl, trivial⟩
            · rw [c4] at ho
              (repeat (first | refine r_end ?_ | (refine r_op ?_; refine r_pure hT rfl rfl rfl rfl rfl rfl ?_) | refine gi_plain ?_ | refine gi_skip ?_ | refine gi_inBlock ?_))
              refine on false ho _ _ _ ⟨rfl, rfl, rfl, rfl, rfl, rfl, trivial⟩ ⟨rfl, rfl, rfl, trivial⟩ ⟨rfl, by simp, trivial⟩
        · rw [c2] at ho
          have ho : kpB up L j x = false := ho
          (repeat (first | refine r_end ?_ | (refine r_op ?_; first | refine r_pure hT rfl rfl rfl rfl rfl rfl ?_ | refine r_off rfl rfl rfl rfl rfl ?_) | refine gi_plain ?_ | refine gi_skip ?_ | refine gi_inBlock ?_ | (refine gi_cnd ?_; first | refine gi_true rfl ?_ | refine gi_false rfl ?_)))
          refine on false ho _ _ _ ⟨rfl, rfl, rfl, rfl, rfl, rfl, trivial⟩ ⟨rfl, rfl, rfl, trivial⟩ ⟨rfl, by simp, trivial⟩
      · have hje : j = L.length := by omega
        subst hje
        generalize uqN up L L.length = U at hEn huq ⊢
        (repeat (first | refine r_end ?_ | (refine r_op ?_; first | refine r_pure hT rfl rfl rfl rfl rfl rfl ?_ | refine r_load hT rfl rfl rfl rfl rfl rfl rfl rfl rfl ?_ | refine r_store hT rfl rfl rfl rfl rfl rfl rfl rfl rfl rfl ?_) | refine gi_seq ?_ | refine gi_plain ?_ | refine gi_exit rfl ?_))
        refine gi_freeze 1 (L' := U.map Ot.row) rfl rfl ?_
        refine gi_retX hT Try.func36 rfl [] [] rfl rfl rfl rfl rfl rfl rfl rfl ?_
        exact ⟨⟨n, o, U, hn, hA, by rw [← hup]; exact hEn, by rw [← hup]⟩, rfl, rfl⟩
end Go.Proofs.Ytmocggibcniggaa.Kt
namespace Go.Proofs.Ytmocggibcniggaa.Kt
open Go Kw Go.Proofs
attribute [local irreducible] Kw.GI Kw.GR Kw.FnR Kw.FnX Kw.FnI
set_option maxHeartbeats 16000000
set_option maxRecDepth 100000
theorem few_nil4 : Few [] := ⟨Nat.zero_le _, fun x h => (nomatch h), fun x h => (nomatch h)⟩
theorem Num_ok (n : Int) : FnR Try.prog 39 [I n] (RI n) := by
  refine fnR_intro (T := TT) (n := 4) Try.func39 rfl rfl rfl (fun w Z => ?_)
  (repeat (first | refine r_end ?_ | (refine r_op ?_; refine r_pure hT rfl rfl rfl rfl rfl rfl ?_) | refine gi_seq ?_ | refine gi_plain ?_))
  refine gi_retW hT Try.func39 rfl rfl [] rfl rfl rfl rfl ?_
  exact ⟨rfl, rfl⟩
theorem stLL_Ot : ∀ (l : List Ot), stLL (l.map Ot.row) = true
  | [] => rfl
  | c :: l => by
    show (stL (Ot.row c) && stLL (l.map Ot.row)) = true
    rw [stLL_Ot l]; rfl
theorem entR_st {m : Mp} {ms : List Vt} {ps : List Pt} {g : Int} {s : Src} {t : List Nd} : ∀ (a : Option Nat) (r : AV), EntR m ms ps g s t a r → ∃ p b g' u l n, r = .tup [avEt p b g' u l, I n]
  | none, _, h => ⟨_, _, _, _, _, _, h⟩
  | some _, _, ⟨_, _, _, _, _, _, h⟩ => ⟨_, _, _, _, _, _, h⟩
theorem pEnt {m : Mp} {ms : List Vt} {self : Int} {ps : List Pt} {src g : Int} : ∀ r H1 S1, REnt m ms self ps src g r H1 S1 → stA r = true ∧ StH H1 ∧ StS S1 := by
  rintro r H S ⟨hr, rfl, rfl⟩
  obtain ⟨p, b, g', u, l, n, rfl⟩ := entR_st _ _ hr
  refine ⟨?_, StH.nil, stS_nil⟩
  show ((true && (true && (true && (true && (stLL (l.map Ot.row) && true))))) && (true && true)) = true
  rw [stLL_Ot]
  rfl
theorem C_mapN {E : Env} {w : World} {u : Value} (h1 : C E w (.agg [nilA, nilA, nilA, nilA, nilA]) u) : C E w (avMf (mapL [])) u := by
  unfold C at h1 ⊢
  obtain ⟨vs, rfl, h3, h4⟩ := h1
  refine ⟨vs, rfl, ?_, h4⟩
  have a1 := CL_setx (x := nilA) (y := .r (.fs 2 [])) (j := 0) (fun u hu => C_nil_fs hu) rfl h3
  have a2 := CL_setx (x := nilA) (y := .r (.fs 6 [])) (j := 1) (fun u hu => C_nil_fs hu) rfl a1
  have a3 := CL_setx (x := nilA) (y := .r (.fs 4 [])) (j := 2) (fun u hu => C_nil_fs hu) rfl a2
  have a4 := CL_setx (x := nilA) (y := .r (.fs 4 [])) (j := 3) (fun u hu => C_nil_fs hu) rfl a3
  exact CL_setx (x := nilA) (y := .r (.fs 1 [])) (j := 4) (fun u hu => C_nil_fs hu) rfl a4
theorem Entry_no (l : List Ls) (hf : Few l) (ms : List Vt) (hms : ms.length < 1000000) (self src g : Int) : FnX Try.prog 36 [avMf (mapL l), rsV ms, I self, nilA, I src, I g] [] [] (REnt (mapL l) ms self [] src g) :=
  fnX_args (Entry_ok l hf ms hms self [] (by decide) (fun p h => (nomatch h)) src g) (fun _ _ _ h => CL_setx (x := nilA) (y := fsPt []) (j := 3) (fun u hu => C_nil_fs hu) rfl h)
theorem Entry_nn (l : List Ls) (hf : Few l) (self src g : Int) : FnX Try.prog 36 [avMf (mapL l), nilA, I self, nilA, I src, I g] [] [] (REnt (mapL l) [] self [] src g) :=
  fnX_args (Entry_no l hf [] (by decide) self src g) (fun _ _ _ h => CL_setx (x := nilA) (y := rsV []) (j := 1) (fun u hu => C_nil_rs hu) rfl h)
theorem Entry_nil (self src g : Int) : FnX Try.prog 36 [.agg [nilA, nilA, nilA, nilA, nilA], nilA, I self, nilA, I src, I g] [] [] (REnt (mapL []) [] self [] src g) :=
  fnX_args (Entry_nn [] few_nil4 self src g) (fun _ _ _ h => CL_setx (x := .agg [nilA, nilA, nilA, nilA, nilA]) (y := avMf (mapL [])) (j := 0) (fun u hu => C_mapN hu) rfl h)
theorem ent0 : entP (srcF 51461 (mapL l0)) (castT (mapL l0) (srcF 51461 (mapL l0))) 1 = some 0 := by kernel_rfl
theorem entN : entP (srcF 5 (mapL [])) (castT (mapL []) (srcF 5 (mapL []))) 1 = none := by kernel_rfl
theorem awake24_ok : FnR Try.prog 40 [] (RB true) := by
  refine fnR_intro (T := TT) (n := 41) Try.func40 rfl rfl rfl (fun w Z => ?_)
  (repeat (first | refine r_end ?_ | (refine r_op ?_; refine r_pure hT rfl rfl rfl rfl rfl rfl ?_) | refine gi_seq ?_ | refine gi_plain ?_))
  refine r_callX [] [] (Entry_nil 1 5 7) rfl rfl rfl rfl rfl rfl Try.func36 rfl rfl rfl rfl rfl rfl rfl pEnt ?_
  rintro r H1 S1 ⟨hr, rfl, rfl⟩
  rw [entN] at hr
  obtain rfl := hr
  (repeat (first | refine r_end ?_ | (refine r_op ?_; first | refine r_pure hT rfl rfl rfl rfl rfl rfl ?_ | refine r_store hT rfl rfl rfl rfl rfl rfl rfl rfl rfl rfl ?_ | refine r_alloc hT rfl rfl rfl rfl rfl rfl rfl rfl rfl ?_) | refine gi_seq ?_ | refine gi_plain ?_))
  refine r_callX [] [] (Graph0n) rfl rfl rfl rfl rfl rfl Try.func28 rfl rfl rfl rfl rfl rfl rfl p0G ?_
  rintro r H1 S1 ⟨rfl, rfl, rfl⟩
  refine r_freeze 0 rfl (frz_seO l0) ?_
  skip
  refine r_call (MapF l0 few0) rfl rfl rfl rfl rfl rfl rfl rfl Try.func15 rfl rfl rfl pMapP ?_
  rintro r S1 ⟨rfl, rfl⟩
  (repeat (first | refine r_end ?_ | (refine r_op ?_; first | refine r_store hT rfl rfl rfl rfl rfl rfl rfl rfl rfl rfl ?_ | refine r_alloc hT rfl rfl rfl rfl rfl rfl rfl rfl rfl ?_) | refine gi_seq ?_))
  refine gi_freeze 1 (L' := (mapL l0).vs.map Vt.row) rfl rfl ?_
  refine gi_freeze 2 (L' := (mapL l0).es.map Eg.row) rfl rfl ?_
  refine gi_freeze 3 (L' := (mapL l0).sb.map Sb.row) rfl rfl ?_
  refine gi_freeze 4 (L' := (mapL l0).sn.map Sn.row) rfl rfl ?_
  refine gi_freeze 5 (L' := (mapL l0).wl.map nRow) rfl rfl ?_
  refine gi_weak (F' := [(3, .box 1 0), (2, I 7)]) (H' := [hEt 0 0 0 0 (fsOt []), hMf (mapL l0)]) (S' := []) ⟨rfl, rfl, trivial⟩ ⟨rfl, rfl, trivial⟩ trivial rfl ?_
  (repeat (first | (refine r_op ?_; refine r_load hT rfl rfl rfl rfl rfl rfl rfl rfl rfl ?_) | refine gi_plain ?_))
  refine r_callX [] [] (Entry_nn l0 few0 1 51461 7) rfl rfl rfl rfl rfl rfl Try.func36 rfl rfl rfl rfl rfl rfl rfl pEnt ?_
  rintro r H1 S1 ⟨hr, rfl, rfl⟩
  rw [ent0] at hr
  obtain ⟨n, o, outs, _, _, _, hr⟩ := hr
  rw [src0] at hr
  obtain rfl := hr
  (repeat (first | refine r_end ?_ | (refine r_op ?_; first | refine r_pure hT rfl rfl rfl rfl rfl rfl ?_ | refine r_store hT rfl rfl rfl rfl rfl rfl rfl rfl rfl rfl ?_ | refine r_alloc hT rfl rfl rfl rfl rfl rfl rfl rfl rfl ?_) | refine gi_seq ?_ | refine gi_plain ?_))
  refine r_call (Num_ok 7) rfl rfl rfl rfl rfl rfl rfl rfl Try.func39 rfl rfl rfl pI ?_
  rintro r S1 ⟨rfl, rfl⟩
  (repeat ((refine r_op ?_; refine r_pure hT rfl rfl rfl rfl rfl rfl ?_)))
  refine r_known (d := 21) (b := true) rfl (by rw [eqB_eq]; rfl) ?_
  (repeat ((refine r_op ?_; refine r_pure hT rfl rfl rfl rfl rfl rfl ?_)))
  refine r_call (Num_ok 0) rfl rfl rfl rfl rfl rfl rfl rfl Try.func39 rfl rfl rfl pI ?_
  rintro r S1 ⟨rfl, rfl⟩
  (repeat ((refine r_op ?_; refine r_pure hT rfl rfl rfl rfl rfl rfl ?_)))
  refine r_known (d := 26) (b := true) rfl (by rw [eqB_eq]; rfl) ?_
  (repeat ((refine r_op ?_; first | refine r_pure hT rfl rfl rfl rfl rfl rfl ?_ | refine r_load hT rfl rfl rfl rfl rfl rfl rfl rfl rfl ?_)))
  refine r_known (d := 31) (b := true) rfl (by rw [eqB_eq]; rfl) ?_
  (repeat ((refine r_op ?_; first | refine r_pure hT rfl rfl rfl rfl rfl rfl ?_ | refine r_load hT rfl rfl rfl rfl rfl rfl rfl rfl rfl ?_)))
  refine r_known (d := 36) (b := true) rfl (by rw [eqB_eq]; rfl) ?_
  (repeat (first | refine r_end ?_ | (refine r_op ?_; first | refine r_pure hT rfl rfl rfl rfl rfl rfl ?_ | refine r_load hT rfl rfl rfl rfl rfl rfl rfl rfl rfl ?_)))
  refine gi_retW hT Try.func40 rfl rfl [] rfl rfl rfl rfl ?_
  exact ⟨by rw [eqB_eq]; rfl, rfl⟩
end Go.Proofs.Ytmocggibcniggaa.Kt
namespace Go.Proofs.Ytmocggibcniggaa.Kt
open Go Kw Go.Proofs
attribute [local irreducible] Kw.GI Kw.GR Kw.FnR Kw.FnX Kw.FnI
set_option maxHeartbeats 16000000
set_option maxRecDepth 100000
/-! ### the ports of a router of Graph's -/
def bitF (h r : Int) : Bool := eqB (Go.bits .and .u8 (h.fdiv (2 ^ (min (wr .u64 r).toNat (IntKind.u8).bits))) 1) 1
def grpF (b : Bool) (g : Int) : List Int := match b with
  | true => [g]
  | false => []
def ptF (hb : Bool) (g : Int) (q : Lk) : Pt := match eqB q.k 2 with
  | true => ⟨2, q.d, 24, 0, 0, 3, 0, q.i, 0, [⟨99, q.i, 0, 0, 0, false, 0⟩], []⟩
  | false => (match eqB q.k 3 with
    | true => ⟨2, wr .i64 (q.i + 1), 24, 0, 0, 5, 0, wr .i64 (q.i + 1), 0, [], grpF hb g⟩
    | false => ⟨1, q.d, 32, 0, 0, 1, 0, 0, 0, [], []⟩)
/-- Without its groups. -/
def ptN (q : Lk) : Pt := ptF false 0 q
theorem ptF_g (hb : Bool) (g : Int) (q : Lk) : ptF hb g q = ⟨(ptN q).k, (ptN q).a, (ptN q).b, (ptN q).c, (ptN q).p, (ptN q).s, (ptN q).w, (ptN q).dr, (ptN q).bd, (ptN q).fu, match eqB q.k 3 && hb with | true => [g] | false => []⟩ := by
  have h23 : eqB q.k 2 = true → eqB q.k 3 = false := fun h => by
    rw [eqB_eq] at h ⊢
    have : q.k = 2 := of_decide_eq_true h
    rw [this]; rfl
  unfold ptN ptF
  cases h2 : eqB q.k 2 with
  | true => rw [h23 h2]; rfl
  | false =>
    cases h3 : eqB q.k 3 with
    | true => cases hb <;> rfl
    | false => rfl
abbrev ePt (l : List Pt) : Option SE := some ⟨126, 11, l.map Pt.row, false⟩
abbrev hFc (x : Pt) : Option (TypeId × List AV) := some (123, [I x.k, I x.a, I x.b, I x.c, I x.p, I x.s, I x.w, I x.dr, I x.bd])
abbrev hLkP (q : Lk) : Option (TypeId × List AV) := some (54, [I q.k, I q.i, I q.d, I q.c])
abbrev RPt (ps : List Pt) : AV → Hp → Sp → Prop := fun r H S => r = fsPt ps ∧ H = [] ∧ S = []
theorem stLL_Pt : ∀ (l : List Pt), stLL (l.map Pt.row) = true
  | [] => rfl
  | x :: l => by
    show (stL (Pt.row x) && stLL (l.map Pt.row)) = true
    rw [stLL_Pt l]
    show ((true && (true && (true && (true && (true && (true && (true && (true && (true && (stLL (x.fu.map Nr.row) && (stLL (x.gs.map nRow) && true))))))))))) && true) = true
    rw [stLL_Nr, stLL_N]; rfl
theorem pPts {ps : List Pt} : ∀ r H1 S1, RPt ps r H1 S1 → stA r = true ∧ StH H1 ∧ StS S1 := by
  rintro r H S ⟨rfl, rfl, rfl⟩
  exact ⟨stLL_Pt ps, StH.nil, stS_nil⟩
theorem Ports_ok (l : List Ls) (r : Nat) (hr : r < 1000000) (x : Ls) (hx : l[r]? = some x) (hlk : x.lk.length < 1000000) (g h : Int) : FnX Try.prog 37 [fsL l, I ((r : Int) + 1), I g, u8 h] [] [] (RPt (x.lk.map (ptF (bitF h ((r : Int) + 1)) g))) := by
  obtain ⟨hb, hhb⟩ : ∃ hb, hb = bitF h ((r : Int) + 1) := ⟨_, rfl⟩
  rw [← hhb]
  have hr1 : wr .i64 ((r : Int) + 1 - 1) = (r : Int) := by rw [wr_i64 (by omega) (by omega)]; omega
  refine fnX_intro (T := TT) (n := 82) Try.func37 rfl rfl rfl (fun w X Z Y B => ?_)
  (repeat (first | refine r_end ?_ | (refine r_op ?_; refine r_pure hT rfl rfl rfl rfl rfl rfl ?_) | refine gi_seq ?_ | refine gi_plain ?_ | refine gi_block ?_))
  refine gi_thaw 0 rfl ?_
  refine gi_adopt (e := 126) (sz := 11) 9 rfl ?_
  refine gi_loop (σ := Nat) (fun j => [(10, I (j : Int)), (9, .sl 0), (0, .r (.rs 12 (l.map Ls.row))), (1, I ((r : Int) + 1)), (2, I g), (3, u8 h)]) (fun _ => []) (fun j => [ePt ((x.lk.take j).map (ptF hb g))]) (fun j => j ≤ x.lk.length) (fun j => x.lk.length - j) 0 (Nat.zero_le _) ⟨rfl, rfl, rfl, rfl, rfl, rfl, trivial⟩ trivial ⟨rfl, trivial⟩ (fun _ => rfl) (fun j hj next => ?_)
  have hj : j ≤ x.lk.length := hj
  (repeat (first | (refine r_op ?_; refine r_pure hT rfl rfl rfl rfl rfl rfl ?_) | refine gi_seq ?_ | refine gi_plain ?_))
  refine r_turn (d := 18) (y := I (r : Int)) rfl (by rw [hr1]) ?_
  refine r_idx (row := x.row) hT rfl rfl rfl rfl rfl rfl rfl rfl rfl rfl rfl rfl (nn r) (by simp [hx]) ?_
  (repeat (first | refine r_end ?_ | (refine r_op ?_; first | refine r_pure hT rfl rfl rfl rfl rfl rfl ?_ | refine r_load hT rfl rfl rfl rfl rfl rfl rfl rfl rfl ?_)))
  refine gi_lt (q := ((x.lk.map Lk.row).length : Int)) rfl (fun h3 => ?_) (fun h3 => ?_)
  · rw [List.length_map] at h3
    have hjl : j < x.lk.length := by omega
    obtain ⟨q, hq⟩ : ∃ q, x.lk[j]? = some q := ⟨_, List.getElem?_eq_getElem hjl⟩
    have hst : (x.lk.take (j + 1)).map (ptF hb g) = (x.lk.take j).map (ptF hb g) ++ [ptF hb g q] := by rw [take_snoc hq, List.map_append]; rfl
    have hol : ((x.lk.take j).map (ptF hb g)).length ≤ j := by rw [List.length_map, List.length_take]; omega
    generalize (x.lk.take j).map (ptF hb g) = out at hst hol
    have on : ∀ F1 H1 S1, SubF [(10, I (wr .i64 ((j : Int) + 1))), (9, .sl 0), (0, .r (.rs 12 (l.map Ls.row))), (1, I ((r : Int) + 1)), (2, I g), (3, u8 h)] F1 → SubH [] H1 → SubS [ePt (out ++ [ptF hb g q])] S1 → GI _ _ F1 H1 S1 := fun F1 H1 S1 hF hH hS => by
      refine next (j + 1) F1 H1 S1 hjl (by omega) ?_ hH ?_
      · rw [wadd1 (by omega)] at hF; exact hF
      · rw [hst]; exact hS
    clear next
    (repeat (first | (refine r_op ?_; refine r_pure hT rfl rfl rfl rfl rfl rfl ?_) | refine gi_seq ?_ | refine gi_plain ?_ | refine gi_skip ?_ | refine gi_block ?_))
    refine r_turn (d := 28) (y := I (r : Int)) rfl (by rw [hr1]) ?_
    refine r_idx (row := x.row) hT rfl rfl rfl rfl rfl rfl rfl rfl rfl rfl rfl rfl (nn r) (by simp [hx]) ?_
    (repeat ((refine r_op ?_; first | refine r_pure hT rfl rfl rfl rfl rfl rfl ?_ | refine r_load hT rfl rfl rfl rfl rfl rfl rfl rfl rfl ?_)))
    refine r_thaw 31 rfl ?_
    refine r_idx (row := q.row) hT rfl rfl rfl rfl rfl rfl rfl rfl rfl rfl rfl rfl (nn j) (by simp [hq]) ?_
    (repeat (first | refine r_end ?_ | (refine r_op ?_; first | refine r_pure hT rfl rfl rfl rfl rfl rfl ?_ | refine r_load hT rfl rfl rfl rfl rfl rfl rfl rfl rfl ?_ | refine r_store hT rfl rfl rfl rfl rfl rfl rfl rfl rfl rfl ?_ | refine r_alloc hT rfl rfl rfl rfl rfl rfl rfl rfl rfl ?_) | refine gi_seq ?_ | refine gi_plain_ne 8 rfl ?_))
    apply gi_cut (σ := Unit) (fun _ => [(13, .r (.fs 7 ((ptN q).fu.map Nr.row))), (12, .box 1 0), (11, .box 0 0), (10, I (j : Int)), (9, .sl 0), (0, .r (.rs 12 (l.map Ls.row))), (1, I ((r : Int) + 1)), (2, I g), (3, u8 h)]) (fun _ => [hLkP q, hFc (ptN q)]) (fun _ => [ePt out]) (fun _ => True) (fun _ => rfl)
    case first =>
      intro fin
      have hp : ptN q = ptN q := rfl
      conv at hp => rhs; unfold ptN ptF
      (repeat (first | refine r_end ?_ | (refine r_op ?_; first | refine r_pure hT rfl rfl rfl rfl rfl rfl ?_ | refine r_load hT rfl rfl rfl rfl rfl rfl rfl rfl rfl ?_) | refine gi_seq ?_ | refine gi_plain ?_ | refine gi_block ?_))
      refine gi_cond rfl (fun c1 => ?_) (fun c1 => ?_)
      · have hp : ptN q = ⟨2, q.d, 24, 0, 0, 3, 0, q.i, 0, [⟨99, q.i, 0, 0, 0, false, 0⟩], []⟩ := by rw [hp, c1]
        rw [hp] at fin
        (repeat (first | refine r_end ?_ | (refine r_op ?_; first | refine r_pure hT rfl rfl rfl rfl rfl rfl ?_ | refine r_load hT rfl rfl rfl rfl rfl rfl rfl rfl rfl ?_ | refine r_store hT rfl rfl rfl rfl rfl rfl rfl rfl rfl rfl ?_ | refine r_lit hT rfl rfl rfl rfl rfl rfl rfl rfl rfl rfl rfl rfl rfl ?_) | refine gi_seq ?_ | refine gi_plain_ne 14 rfl ?_ | refine gi_inBlock ?_))
        refine gi_freeze 1 (L' := [(⟨99, q.i, 0, 0, 0, false, 0⟩ : Nr).row]) rfl rfl ?_
        exact fin () _ _ _ trivial ⟨rfl, rfl, rfl, rfl, rfl, rfl, rfl, rfl, rfl, trivial⟩ ⟨rfl, rfl, trivial⟩ ⟨rfl, trivial⟩
      (repeat (first | refine r_end ?_ | (refine r_op ?_; refine r_pure hT rfl rfl rfl rfl rfl rfl ?_) | refine gi_seq ?_ | refine gi_plain ?_))
      refine gi_cond rfl (fun c2 => ?_) (fun c2 => ?_)
      · have hp : ptN q = ⟨2, wr .i64 (q.i + 1), 24, 0, 0, 5, 0, wr .i64 (q.i + 1), 0, [], []⟩ := by rw [hp, c1, c2]; rfl
        rw [hp] at fin
        (repeat (first | refine r_end ?_ | (refine r_op ?_; first | refine r_pure hT rfl rfl rfl rfl rfl rfl ?_ | refine r_load hT rfl rfl rfl rfl rfl rfl rfl rfl rfl ?_ | refine r_store hT rfl rfl rfl rfl rfl rfl rfl rfl rfl rfl ?_) | refine gi_seq ?_ | refine gi_plain_ne 14 rfl ?_ | refine gi_inBlock ?_))
        refine gi_adopt (e := 131) (sz := 7) 13 rfl ?_
        refine gi_freeze 1 (L' := []) rfl rfl ?_
        exact fin () _ _ _ trivial ⟨rfl, rfl, rfl, rfl, rfl, rfl, rfl, rfl, rfl, trivial⟩ ⟨rfl, rfl, trivial⟩ ⟨rfl, trivial⟩
      · have hp : ptN q = ⟨1, q.d, 32, 0, 0, 1, 0, 0, 0, [], []⟩ := by rw [hp, c1, c2]
        rw [hp] at fin
        (repeat (first | refine gi_seq ?_ | refine gi_skip ?_ | refine gi_inBlock ?_))
        refine gi_adopt (e := 131) (sz := 7) 13 rfl ?_
        refine gi_freeze 1 (L' := []) rfl rfl ?_
        exact fin () _ _ _ trivial ⟨rfl, rfl, rfl, rfl, rfl, rfl, rfl, rfl, rfl, trivial⟩ ⟨rfl, rfl, trivial⟩ ⟨rfl, trivial⟩
    case after =>
      intro _ _
      have hg := ptF_g hb g q
      generalize ptN q = p at hg ⊢
      (repeat (first | refine r_end ?_ | (refine r_op ?_; first | refine r_pure hT rfl rfl rfl rfl rfl rfl ?_ | refine r_load hT rfl rfl rfl rfl rfl rfl rfl rfl rfl ?_ | refine r_store hT rfl rfl rfl rfl rfl rfl rfl rfl rfl rfl ?_ | refine r_alloc hT rfl rfl rfl rfl rfl rfl rfl rfl rfl ?_) | refine gi_seq ?_ | refine gi_plain_ne 15 rfl ?_))
      refine gi_nilH 2 10 1 rfl rfl ?_
      (repeat (first | (refine r_op ?_; first | refine r_pure hT rfl rfl rfl rfl rfl rfl ?_ | refine r_load hT rfl rfl rfl rfl rfl rfl rfl rfl rfl ?_) | refine gi_plain ?_))
      refine r_case (d := 66) rfl (fun c1 => ?_) (fun c1 => ?_)
      · rw [c1] at hg
        (repeat ((refine r_op ?_; refine r_pure hT rfl rfl rfl rfl rfl rfl ?_)))
        refine r_shr rfl rfl rfl rfl rfl rfl rfl rfl (by rw [wr_eq]; show 0 ≤ (IntKind.u64).wrap _; rw [IntKind.wrap_u64]; omega) rfl ?_
        (repeat (first | refine r_end ?_ | (refine r_op ?_; refine r_pure hT rfl rfl rfl rfl rfl rfl ?_)))
        refine gi_cond (p := bitF h ((r : Int) + 1)) rfl (fun c2 => ?_) (fun c2 => ?_)
        · rw [hhb, c2] at hg
          have hg : ptF hb g q = ⟨p.k, p.a, p.b, p.c, p.p, p.s, p.w, p.dr, p.bd, p.fu, [g]⟩ := by rw [hhb, c2]; exact hg
          rw [hg] at on
          (repeat (first | refine r_end ?_ | (refine r_op ?_; first | refine r_pure hT rfl rfl rfl rfl rfl rfl ?_ | refine r_store hT rfl rfl rfl rfl rfl rfl rfl rfl rfl rfl ?_ | refine r_lit hT rfl rfl rfl rfl rfl rfl rfl rfl rfl rfl rfl rfl rfl ?_) | refine gi_plain_ne 17 rfl ?_))
          refine gi_freeze 1 (L' := [nRow g]) rfl rfl ?_
          (repeat (first | (refine r_op ?_; first | refine r_pure hT rfl rfl rfl rfl rfl rfl ?_ | refine r_load hT rfl rfl rfl rfl rfl rfl rfl rfl rfl ?_ | refine r_lit hT rfl rfl rfl rfl rfl rfl rfl rfl rfl rfl rfl rfl rfl ?_) | refine gi_plain ?_))
          refine r_append hT rfl rfl rfl rfl rfl rfl rfl rfl rfl rfl rfl rfl rfl rfl rfl rfl rfl (by simp only [List.length_cons, List.length_nil, List.length_map, maxLen]; exact ⟨by omega, by show _ * 120 ≤ _; omega⟩) ?_
          (repeat (first | refine r_end ?_ | (refine r_op ?_; refine r_pure hT rfl rfl rfl rfl rfl rfl ?_) | refine gi_plain ?_ | refine gi_inBlock ?_))
          refine gi_pick [] [0] rfl rfl rfl rfl rfl ?_
          exact on _ _ _ ⟨rfl, rfl, rfl, rfl, rfl, rfl, trivial⟩ trivial ⟨by rw [ePt, List.map_append]; rfl, trivial⟩
        · have hg : ptF hb g q = ⟨p.k, p.a, p.b, p.c, p.p, p.s, p.w, p.dr, p.bd, p.fu, []⟩ := by rw [hg, hhb, c2]; rfl
          rw [hg] at on
          (repeat (first | (refine r_op ?_; first | refine r_pure hT rfl rfl rfl rfl rfl rfl ?_ | refine r_load hT rfl rfl rfl rfl rfl rfl rfl rfl rfl ?_ | refine r_lit hT rfl rfl rfl rfl rfl rfl rfl rfl rfl rfl rfl rfl rfl ?_) | refine gi_plain ?_ | refine gi_skip ?_))
          refine r_append hT rfl rfl rfl rfl rfl rfl rfl rfl rfl rfl rfl rfl rfl rfl rfl rfl rfl (by simp only [List.length_cons, List.length_nil, List.length_map, maxLen]; exact ⟨by omega, by show _ * 120 ≤ _; omega⟩) ?_
          (repeat (first | refine r_end ?_ | (refine r_op ?_; refine r_pure hT rfl rfl rfl rfl rfl rfl ?_) | refine gi_plain ?_ | refine gi_inBlock ?_))
          refine gi_pick [] [0] rfl rfl rfl rfl rfl ?_
          exact on _ _ _ ⟨rfl, rfl, rfl, rfl, rfl, rfl, trivial⟩ trivial ⟨by rw [ePt, List.map_append]; rfl, trivial⟩
      · have hg : ptF hb g q = ⟨p.k, p.a, p.b, p.c, p.p, p.s, p.w, p.dr, p.bd, p.fu, []⟩ := by rw [hg, c1]; rfl
        rw [hg] at on
        (repeat (first | refine r_end ?_ | (refine r_op ?_; first | refine r_pure hT rfl rfl rfl rfl rfl rfl ?_ | refine r_load hT rfl rfl rfl rfl rfl rfl rfl rfl rfl ?_ | refine r_off rfl rfl rfl rfl rfl ?_ | refine r_lit hT rfl rfl rfl rfl rfl rfl rfl rfl rfl rfl rfl rfl rfl ?_) | refine gi_plain ?_ | refine gi_skip ?_ | (refine gi_cnd ?_; first | refine gi_true rfl ?_ | refine gi_false rfl ?_)))
        refine r_append hT rfl rfl rfl rfl rfl rfl rfl rfl rfl rfl rfl rfl rfl rfl rfl rfl rfl (by simp only [List.length_cons, List.length_nil, List.length_map, maxLen]; exact ⟨by omega, by show _ * 120 ≤ _; omega⟩) ?_
        (repeat (first | refine r_end ?_ | (refine r_op ?_; refine r_pure hT rfl rfl rfl rfl rfl rfl ?_) | refine gi_plain ?_ | refine gi_inBlock ?_))
        refine gi_pick [] [0] rfl rfl rfl rfl rfl ?_
        exact on _ _ _ ⟨rfl, rfl, rfl, rfl, rfl, rfl, trivial⟩ trivial ⟨by rw [ePt, List.map_append]; rfl, trivial⟩
  · rw [List.length_map] at h3
    have hje : j = x.lk.length := by omega
    subst hje
    rw [List.take_length]
    (repeat (first | refine r_end ?_ | (refine r_op ?_; refine r_pure hT rfl rfl rfl rfl rfl rfl ?_) | refine gi_seq ?_ | refine gi_plain ?_ | refine gi_exit rfl ?_))
    refine gi_freeze 0 (L' := (x.lk.map (ptF hb g)).map Pt.row) rfl rfl ?_
    refine gi_retX hT Try.func37 rfl [] [] rfl rfl rfl rfl rfl rfl rfl rfl ?_
    exact ⟨rfl, rfl, rfl⟩
end Go.Proofs.Ytmocggibcniggaa.Kt
namespace Go.Proofs.Ytmocggibcniggaa.Kt
open Go Kw Go.Proofs
set_option maxHeartbeats 4000000
set_option maxRecDepth 100000
/-! ### the ports of a router of Graph's: the law -/
theorem and24_mod : (List.range 210).all (fun q => (List.range 256).all (fun c => Nat.beq ((256 * q + c) &&& 4294967040) (256 * q))) = true := by kernel_rfl
theorem pnet_mod {x : Int} (h0 : 0 ≤ x) (h1 : x < 53760) : pnetF x 24 = x - x % 256 := by
  obtain ⟨q, c, hc, hq, rfl⟩ : ∃ q c : Nat, c < 256 ∧ q < 210 ∧ x = (256 * q + c : Nat) := ⟨(x / 256).toNat, (x % 256).toNat, by omega, by omega, by omega⟩
  have e := Nat.eq_of_beq_eq_true (List.all_eq_true.1 (List.all_eq_true.1 and24_mod q (List.mem_range.2 hq)) c (List.mem_range.2 hc))
  unfold pnetF
  have h2 := and_i64 (256 * q + c) 4294967040 (by omega) (by omega)
  rw [e] at h2
  have h2 : Go.bits .and .i64 ((256 * q + c : Nat) : Int) 4294967040 = ((256 * q : Nat) : Int) := h2
  rw [mask24, h2]
  omega
theorem fstA_cases (P : Pt → Bool) (l : List Pt) : (fstA P l = 0 ∧ ∀ p ∈ l, P p = false) ∨ ∃ p ∈ l, P p = true ∧ fstA P l = p.a := by
  unfold fstA
  cases h : l.find? P with
  | none =>
    rw [List.find?_eq_none] at h
    exact .inl ⟨rfl, fun p hp => by simpa using h p hp⟩
  | some p => exact .inr ⟨p, List.mem_of_find?_eq_some h, List.find?_some h, rfl⟩
/-- How an edge of Graph's lies. -/
inductive Ed3 (P : Nat) (e : Eg) : Prop
  | rr (a b : Int) : e.f = ⟨1, a⟩ → e.t = ⟨1, b⟩ → 1000 ≤ e.d → e.d ≤ 2036 → 2 < P → Ed3 P e
  | rn (r N : Int) : e.f = ⟨1, r⟩ → e.t = ⟨2, N⟩ → e.d = N + r → N % 256 = 0 → 25856 ≤ N → N ≤ 27648 → Ed3 P e
  | nr (N r : Int) : e.f = ⟨2, N⟩ → e.t = ⟨1, r⟩ → e.d = N + r → N % 256 = 0 → 25856 ≤ N → N ≤ 27648 → Ed3 P e
section
variable {n : Int} {P Q : Nat} {non : Bool} {l : List Ls}
theorem Mde.ed3 (h : Mde n P Q non l) {e : Eg} (he : e ∈ (mapL l).es) : Ed3 P e := by
  have vt : ∀ {v : Vt} {k : Int}, v.k = k → v = ⟨k, v.i⟩ := fun {v k} hk => by cases v; simp only at hk ⊢; rw [hk]
  cases map_how he with
  | rr x y q h1 h2 h3 h4 h5 h6 h7 =>
    rcases h.find h1 with ⟨a1, _, _, _, a5⟩ | ⟨_, a2, _⟩
    · have hq := a5 q h2
      obtain ⟨_, b2, _⟩ := h.rtr h1 a1
      rcases hq.kd with ⟨c1, _, _, _, c2, c3⟩ | ⟨c1, _⟩ | ⟨c1, _⟩
      · exact .rr _ _ (vt a1) h4 (by omega) (by omega) (b2 q h2 h3)
      · omega
      · omega
    · rw [a2] at h2; cases h2
  | rn x y q h1 h2 h3 h4 h5 h6 h7 h8 =>
    rcases h.find h1 with ⟨a1, _, _, _, a5⟩ | ⟨_, a2, _⟩
    · have hq := a5 q h2
      rcases hq.kd with ⟨c1, _⟩ | ⟨c1, c2, c3, c4, c5⟩ | ⟨c1, _⟩
      · omega
      · exact .rn _ _ (vt a1) h4 (by omega) c3 c4 c5
      · omega
    · rw [a2] at h2; cases h2
  | nr x y q h1 h2 h3 h4 h5 h6 h7 =>
    rcases h.find h1 with ⟨_, _, _, a4, _⟩ | ⟨a1, _⟩
    · rw [a4] at h3; cases h3
    · obtain ⟨_, b2, b3, b4⟩ := h.nets h1 a1
      obtain ⟨_, _, c3, _⟩ := (h.edge he).dn a1
      exact .nr _ _ (vt a1) (vt h2) c3 b2 b3 b4
/-- The list's element of a router. -/
theorem Mde.at_ (h : Mde n P Q non l) {r : Nat} (hr : (r : Int) < 1 + n % 6) : ∃ x, l[r]? = some x ∧ (∀ q ∈ x.lk, LkG (1 + n % 6) ((r : Int) + 1) q) ∧ (∃ q ∈ x.lk, q.k = 3) := by
  obtain ⟨k, gs, ns, hk, rfl, hf⟩ := h.ex
  have hl := hf.g.len
  obtain ⟨x, hx⟩ : ∃ x, gs[r]? = some x := ⟨_, List.getElem?_eq_getElem (by omega)⟩
  refine ⟨x, by rw [List.getElem?_append_left (by omega)]; exact hx, ?_, hf.st r x (by omega) hx⟩
  rw [← hk]
  exact (hf.g.el r x hx).2
def stO (hb : Bool) (r : Int) : List Ot := match hb with
  | true => [⟨256 * (200 + r) + 1, 1⟩]
  | false => []
/-- What a port of a router is like. -/
structure PoG (r : Int) (hb : Bool) (g : Int) (p : Pt) : Prop where
  ok : PtOk p
  kd : (p.b = 32 ∧ 1000 ≤ p.a ∧ p.a ≤ 2036 ∧ out2 g p = []) ∨ (p.b = 24 ∧ out2 g p = [] ∧ ∃ N, p.a = N + r ∧ N % 256 = 0 ∧ 25856 ≤ N ∧ N ≤ 27648) ∨ (p.b = 24 ∧ p.a = 256 * (200 + r) + 1 ∧ out2 g p = stO hb r)
theorem ptF_po {k r : Int} {q : Lk} (hr : 1 ≤ r ∧ r ≤ 6) (hq : LkG k r q) (hb : Bool) (g : Int) : PoG r hb g (ptF hb g q) := by
  rcases hq.kd with ⟨c1, _, _, _, c2, c3⟩ | ⟨c1, c2, c3, c4, c5⟩ | ⟨c1, c2, c3⟩
  · have e : ptF hb g q = ⟨1, q.d, 32, 0, 0, 1, 0, 0, 0, [], []⟩ := by
      unfold ptF
      rw [c1, show eqB (1 : Int) 2 = false from by rw [eqB_eq]; rfl, show eqB (1 : Int) 3 = false from by rw [eqB_eq]; rfl]
    rw [e]
    refine ⟨⟨by show 0 < 1000000; decide, by show 0 < 1000000; decide⟩, .inl ⟨rfl, c2, c3, ?_⟩⟩
    unfold out2
    rw [show (notB (trF ⟨1, q.d, 32, 0, 0, 1, 0, 0, 0, [], []⟩) && ([] : List Int).any (fun x => decide (x = g))) = false from by rw [List.any_nil, Bool.and_false]]
  · have e : ptF hb g q = ⟨2, q.d, 24, 0, 0, 3, 0, q.i, 0, [⟨99, q.i, 0, 0, 0, false, 0⟩], []⟩ := by
      unfold ptF
      rw [c1, show eqB (2 : Int) 2 = true from by rw [eqB_eq]; rfl]
    rw [e]
    refine ⟨⟨by show 1 < 1000000; decide, by show 0 < 1000000; decide⟩, .inr (.inl ⟨rfl, ?_, q.i, c2, c3, c4, c5⟩)⟩
    unfold out2
    rw [show (notB (trF ⟨2, q.d, 24, 0, 0, 3, 0, q.i, 0, [⟨99, q.i, 0, 0, 0, false, 0⟩], []⟩) && ([] : List Int).any (fun x => decide (x = g))) = false from by rw [List.any_nil, Bool.and_false]]
  · have hw : wr .i64 (q.i + 1) = 256 * (200 + r) + 1 := by rw [c2, wr_i64 (by omega) (by omega)]
    have e : ptF hb g q = ⟨2, 256 * (200 + r) + 1, 24, 0, 0, 5, 0, 256 * (200 + r) + 1, 0, [], grpF hb g⟩ := by
      unfold ptF
      rw [c1, show eqB (3 : Int) 2 = false from by rw [eqB_eq]; rfl, show eqB (3 : Int) 3 = true from by rw [eqB_eq]; rfl, hw]
    rw [e]
    refine ⟨⟨by show 0 < 1000000; decide, ?_⟩, .inr (.inr ⟨rfl, rfl, ?_⟩)⟩
    · show (grpF hb g).length < 1000000
      cases hb
      · show 0 < 1000000; decide
      · show 1 < 1000000; decide
    · unfold out2
      have ht : trF ⟨2, 256 * (200 + r) + 1, 24, 0, 0, 5, 0, 256 * (200 + r) + 1, 0, [], grpF hb g⟩ = false := by
        unfold trF
        rw [show eqB (2 : Int) 1 = false from by rw [eqB_eq]; rfl]
        show (match eqB (5 : Int) 5 with | true => ltB 0 (([] : List Nr).length : Int) | false => _) = false
        rw [show eqB (5 : Int) 5 = true from by rw [eqB_eq]; rfl]
        show ltB 0 ((0 : Nat) : Int) = false
        rw [ltB_eq]
        rfl
      rw [ht]
      cases hb
      · show (match notB false && ([] : List Int).any (fun x => decide (x = g)) with | true => [(⟨256 * (200 + r) + 1, 1⟩ : Ot)] | false => []) = []
        rw [List.any_nil, Bool.and_false]
      · show (match notB false && ([g] : List Int).any (fun x => decide (x = g)) with | true => [(⟨256 * (200 + r) + 1, 1⟩ : Ot)] | false => []) = _
        rw [List.any_cons, decide_eq_true rfl, Bool.true_or, notB_eq]
        rfl
/-- The ports of a router, as Ports tells them. -/
structure PsG (r : Int) (hb : Bool) (g : Int) (ps : List Pt) : Prop where
  len : ps.length < 1000000
  po : ∀ p ∈ ps, PoG r hb g p
  st : ∃ p ∈ ps, p.b = 24 ∧ p.a = 256 * (200 + r) + 1 ∧ out2 g p = stO hb r
theorem psG_of {k r : Int} {lk : List Lk} (hl : lk.length < 1000000) (hr : 1 ≤ r ∧ r ≤ 6) (h : ∀ q ∈ lk, LkG k r q) (hs : ∃ q ∈ lk, q.k = 3) (hb : Bool) (g : Int) : PsG r hb g (lk.map (ptF hb g)) := by
  refine ⟨by rw [List.length_map]; exact hl, fun p hp => ?_, ?_⟩
  · obtain ⟨q, hq, rfl⟩ := List.mem_map.1 hp
    exact ptF_po hr (h q hq) hb g
  · obtain ⟨q, hq, hk⟩ := hs
    have hp := ptF_po hr (h q hq) hb g
    refine ⟨_, List.mem_map.2 ⟨q, hq, rfl⟩, ?_⟩
    have hlk := h q hq
    rcases hp.kd with ⟨a, _⟩ | ⟨_, _, N, a, b, c, d⟩ | ⟨a, b, c⟩
    · exfalso
      unfold ptF at a
      rw [hk, show eqB (3 : Int) 2 = false from by rw [eqB_eq]; rfl, show eqB (3 : Int) 3 = true from by rw [eqB_eq]; rfl] at a
      exact absurd a (by show ¬ (24 : Int) = 32; decide)
    · exfalso
      unfold ptF at a
      rw [hk, show eqB (3 : Int) 2 = false from by rw [eqB_eq]; rfl, show eqB (3 : Int) 3 = true from by rw [eqB_eq]; rfl] at a
      have a : wr .i64 (q.i + 1) = N + r := a
      rcases hlk.kd with ⟨c1, _⟩ | ⟨c1, _⟩ | ⟨_, c2, _⟩
      · omega
      · omega
      · rw [c2, wr_i64 (by omega) (by omega)] at a
        omega
    · exact ⟨a, b, c⟩
section
variable {r : Int} {hb : Bool} {g : Int} {ps : List Pt}
/-- The root's own stub. -/
theorem PsG.root (h : PsG r hb g ps) (hr : 1 ≤ r ∧ r ≤ 6) : fstA (upR (256 * (200 + r)) 24) ps = 256 * (200 + r) + 1 := by
  have hR : ∀ p, upR (256 * (200 + r)) 24 p = true ↔ p.b = 24 ∧ pnetF p.a 24 = 256 * (200 + r) := fun p => by
    unfold upR
    rw [Bool.and_eq_true, eqB_eq, eqB_eq]
    simp
  rcases fstA_cases (upR (256 * (200 + r)) 24) ps with ⟨_, h2⟩ | ⟨p, hp, h1, h2⟩
  · exfalso
    obtain ⟨p, hp, a, b, _⟩ := h.st
    have := h2 p hp
    rw [(hR p).2 ⟨a, by rw [b, pnet_mod (by omega) (by omega)]; omega⟩] at this
    cases this
  · rw [h2]
    obtain ⟨a, b⟩ := (hR p).1 h1
    rcases (h.po p hp).kd with ⟨c, _⟩ | ⟨_, _, N, c, d, e, f⟩ | ⟨_, c, _⟩
    · omega
    · rw [c, pnet_mod (by omega) (by omega)] at b
      omega
    · exact c
/-- Another's stub's is not its. -/
theorem PsG.far (h : PsG r hb g ps) (hr : 1 ≤ r ∧ r ≤ 6) {d : Int} (hd : 1000 ≤ d ∧ d ≤ 2036) : portF ps d = 0 ∨ (1000 ≤ portF ps d ∧ portF ps d ≤ 2036) := by
  unfold portF
  rcases fstA_cases (fun p => inP d p.a p.b) ps with ⟨h1, _⟩ | ⟨p, hp, h1, h2⟩
  · exact .inl h1
  · right
    rw [h2]
    have h1 : inP d p.a p.b = true := h1
    rcases (h.po p hp).kd with ⟨_, c, e, _⟩ | ⟨a, _, N, c, e, f, i⟩ | ⟨a, c, _⟩
    · exact ⟨c, e⟩
    · exfalso
      rw [a] at h1
      have := in_net h1
      rw [c, pnet_mod (by omega) (by omega), pnet_mod (by omega) (by omega)] at this
      omega
    · exfalso
      rw [a] at h1
      have := in_net h1
      rw [c, pnet_mod (by omega) (by omega), pnet_mod (by omega) (by omega)] at this
      omega
/-- Where a router must take it from. -/
inductive UpG (t : List Nd) (r up : Int) (x : Nd) (a : Nat) : Prop
  | root : a = 0 → UpG t r up x a
  | rtr (p : Nat) (y : Nd) : p < a → t[p]? = some y → x.p = p → y.v.k = 1 → (up = 0 ∨ (1000 ≤ up ∧ up ≤ 2036)) → UpG t r up x a
  | net (p : Nat) (y : Nd) (N : Int) : p < a → t[p]? = some y → x.p = p → y.v = ⟨2, N⟩ → up = N + r → N % 256 = 0 → 25856 ≤ N → N ≤ 27648 → UpG t r up x a
theorem PsG.up (h : PsG r hb g ps) (hr : 1 ≤ r ∧ r ≤ 6) (hM : Mde n P Q non l) {v : Vt} {t : List Nd} (hT : Tr l v t) {a : Nat} {x : Nd} (hx : t[a]? = some x) (hv : x.v = ⟨1, r⟩) (pf bt : Int) : UpG t r (upF t x ps pf bt) x a ∧ (a = 0 → x.p < 0) ∧ (P ≤ 2 → 0 < a → ∃ (p : Nat) (y : Nd), t[p]? = some y ∧ x.p = p ∧ y.v.k = 2) := by
  rcases Nat.eq_zero_or_pos a with rfl | ha
  · exact ⟨.root rfl, fun _ => by have := hT.tre.root x hx; omega, fun _ h => absurd h (Nat.lt_irrefl _)⟩
  obtain ⟨e, he, p, y, hp, hy, hyv, het, hxp, _, hxd, _⟩ := hT.gr.edge ha hx
  have hU : upF t x ps pf bt = match eqB y.v.k 1 with
      | true => portF ps x.d
      | false => x.d := by
    unfold upF
    rw [show ltB x.p 0 = false from by rw [ltB_eq, hxp]; exact decide_eq_false (by omega), hxp, Int.toNat_natCast, List.getD_eq_getElem?_getD, hy]
    rfl
  rw [hU]
  refine ⟨?_, fun h => by omega, fun hP _ => ?_⟩
  · cases hM.ed3 he with
    | rr a' b' h1 h2 h3 h4 h5 =>
      have hk : y.v.k = 1 := by rw [hyv, h1]
      refine .rtr p y hp hy hxp hk ?_
      rw [hk, show eqB (1 : Int) 1 = true from by rw [eqB_eq]; rfl]
      exact h.far hr (by omega)
    | rn r' N h1 h2 h3 h4 h5 h6 =>
      rw [het, hv] at h2
      cases h2
    | nr N r' h1 h2 h3 h4 h5 h6 =>
      rw [het, hv] at h2
      have hrr : r' = r := (congrArg Vt.i h2).symm
      refine .net p y N hp hy hxp (by rw [hyv, h1]) ?_ h4 h5 h6
      rw [hyv, h1, show eqB (2 : Int) 1 = false from by rw [eqB_eq]; rfl]
      show x.d = N + r
      omega
  · refine ⟨p, y, hy, hxp, ?_⟩
    cases hM.ed3 he with
    | rr a' b' h1 h2 h3 h4 h5 => omega
    | rn r' N h1 h2 h3 h4 h5 h6 =>
      rw [het, hv] at h2
      cases h2
    | nr N r' h1 h2 h3 h4 h5 h6 => rw [hyv, h1]
end
end
end Go.Proofs.Ytmocggibcniggaa.Kt
