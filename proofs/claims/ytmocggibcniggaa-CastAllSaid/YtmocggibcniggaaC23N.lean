/- Part of the proofs of this seat's statements: what the functions compute. No condition. -/
import Derived.Test.YtmocggibcniggaaC23M
set_option linter.unusedSimpArgs false
set_option linter.unusedVariables false
namespace Go.Proofs.Ytmocggibcniggaa.Kt
open Go Kw Go.Proofs
attribute [local irreducible] Kw.GI Kw.GR Kw.FnR Kw.FnX
set_option maxHeartbeats 16000000
set_option maxRecDepth 100000
theorem rReach_ok (t : List Nd) (m : Mp) (ms : List Vt) (hl : t.length < 1000000) (hw : m.wl.length < 1000000) (hms : ms.length < 1000000) (hkd : ∀ x ∈ t, x.v.k = 1 ∨ x.v.k = 2) : FnX Try.prog 24 [rsNd t, avMf m, rsV ms] [] [] (RReach t m ms) := by
  refine fnX_intro (T := TT) (n := 106) Try.func24 rfl rfl rfl (fun w X Z Y B => ?_)
  (repeat (first | refine r_end ?_ | (refine r_op ?_; first | refine r_pure hT rfl rfl rfl rfl rfl rfl ?_ | refine r_box rfl rfl rfl rfl rfl rfl rfl rfl rfl ?_) | refine gi_seq ?_ | refine gi_plain ?_))
  refine r_make (n := (t.length : Int)) hT rfl rfl rfl rfl rfl rfl rfl (by show some (I (((t.map Nd.row).length : Nat) : Int)) = _; rw [List.length_map]) (by show some (I (((t.map Nd.row).length : Nat) : Int)) = _; rw [List.length_map]) rfl rfl rfl rfl rfl rfl (by omega) ⟨by rw [Int.toNat_natCast]; simp only [maxLen]; omega, by rw [Int.toNat_natCast]; show 8 * t.length ≤ _; omega⟩ ?_
  (repeat (first | refine r_end ?_ | (refine r_op ?_; refine r_pure hT rfl rfl rfl rfl rfl rfl ?_) | refine gi_seq ?_ | refine gi_plain ?_ | refine gi_block ?_))
  have hrep : List.replicate (t.length : Int).toNat (zRow [Value.int IntKind.i64 0]) = (List.replicate t.length (0 : Int)).map nRow := by rw [Int.toNat_natCast, List.map_replicate]; rfl
  refine gi_loop (σ := Nat × List Int) (fun s => [(8, I ((s.1 : Int) - 1)), (7, .sl 0), (0, rsNd t), (2, rsV ms), (4, .box 0 0)]) (fun _ => [hMf m]) (fun s => [eN s.2]) (fun s => s.1 ≤ t.length ∧ PInv t m.wl ms s.1 s.2) (fun s => s.1) (t.length, List.replicate t.length 0) ⟨Nat.le_refl _, PInv.zero t m.wl ms⟩ ⟨?_, rfl, rfl, rfl, rfl, trivial⟩ ⟨rfl, trivial⟩ ⟨?_, trivial⟩ (fun _ => rfl) (fun s hs next => ?_)
  · show some (I (wr .i64 ((((t.map Nd.row).length : Nat) : Int) - 1))) = _
    rw [List.length_map, wr_i64 (by omega) (by omega)]
  · show eN (List.replicate t.length 0) = some (⟨_, _, List.replicate (t.length : Int).toNat (zRow [Value.int IntKind.i64 0]), _⟩ : SE)
    rw [hrep]
  obtain ⟨i0, o⟩ := s
  obtain ⟨hi0, hP⟩ := hs
  simp only at hi0 hP
  (repeat (first | refine r_end ?_ | (refine r_op ?_; refine r_pure hT rfl rfl rfl rfl rfl rfl ?_) | refine gi_seq ?_ | refine gi_plain ?_))
  refine gi_le (p := 0) (q := (i0 : Int) - 1) rfl (fun h3 => ?_) (fun h3 => ?_)
  · obtain ⟨i, rfl⟩ : ∃ j, i0 = j + 1 := ⟨i0 - 1, by omega⟩
    have hil : i < t.length := by omega
    obtain ⟨x, hx⟩ : ∃ x, t[i]? = some x := ⟨_, List.getElem?_eq_getElem hil⟩
    have hol := hP.lo
    have hxk := hkd x (List.mem_of_getElem? hx)
    have hj : (((i + 1 : Nat) : Int) - 1) = i := by omega
    refine gi_turn (d := 8) (y := I (i : Int)) rfl (by rw [hj]) ?_
    (repeat (first | refine r_end ?_ | (refine r_op ?_; refine r_pure hT rfl rfl rfl rfl rfl rfl ?_) | refine gi_seq ?_ | refine gi_plain ?_ | refine gi_skip ?_ | refine gi_block ?_))
    apply gi_cut (σ := Int) (fun e => [(9, I e), (8, I (i : Int)), (7, .sl 0), (0, rsNd t), (2, rsV ms), (4, .box 0 0)]) (fun _ => [hMf m]) (fun _ => [eN o]) (fun e => EInv t o i t.length x e) (fun _ => rfl)
    case first =>
      intro fin
      refine gi_loop (σ := Nat × Int) (fun s => [(10, I (s.1 : Int)), (9, I s.2), (8, I (i : Int)), (7, .sl 0), (0, rsNd t), (2, rsV ms), (4, .box 0 0)]) (fun _ => [hMf m]) (fun _ => [eN o]) (fun s => i + 1 ≤ s.1 ∧ s.1 ≤ t.length ∧ EInv t o i s.1 x s.2) (fun s => t.length - s.1) (i + 1, -1) ⟨Nat.le_refl _, hil, EInv.zero⟩ ⟨?_, rfl, rfl, rfl, rfl, rfl, rfl, trivial⟩ ⟨rfl, trivial⟩ ⟨rfl, trivial⟩ (fun _ => rfl) (fun s hs next2 => ?_)
      · show some (I (wr .i64 ((i : Int) + 1))) = _
        rw [wr_i64 (by omega) (by omega)]
        simp
      obtain ⟨k, e⟩ := s
      obtain ⟨hk1, hk2, hE⟩ := hs
      simp only at hk1 hk2 hE
      (repeat (first | refine r_end ?_ | (refine r_op ?_; refine r_pure hT rfl rfl rfl rfl rfl rfl ?_) | refine gi_seq ?_ | refine gi_plain ?_))
      refine gi_lt (p := (k : Int)) (q := ((t.map Nd.row).length : Int)) rfl (fun h4 => ?_) (fun h4 => ?_)
      · rw [List.length_map] at h4
        have hkl : k < t.length := by omega
        obtain ⟨n, hn⟩ : ∃ m, t[k]? = some m := ⟨_, List.getElem?_eq_getElem hkl⟩
        obtain ⟨y, hy⟩ : ∃ y, o[k]? = some y := ⟨_, List.getElem?_eq_getElem (by omega)⟩
        have hyr := hP.rng k y (by omega) hy
        have hcb := cR_b x n
        have on : ∀ e', EInv t o i (k + 1) x e' → ∀ F1 H1 S1, SubF [(10, I (wr .i64 ((k : Int) + 1))), (9, I e'), (8, I (i : Int)), (7, .sl 0), (0, rsNd t), (2, rsV ms), (4, .box 0 0)] F1 → SubH [hMf m] H1 → SubS [eN o] S1 → GI _ _ F1 H1 S1 := fun e' he' F1 H1 S1 hF hH hS => by
          refine next2 (k + 1, e') F1 H1 S1 ⟨by simp only; omega, by simp only; omega, he'⟩ (by simp only; omega) ?_ hH hS
          rw [wr_i64 (by omega) (by omega)] at hF
          simpa using hF
        clear next2
        (repeat (first | (refine r_op ?_; refine r_pure hT rfl rfl rfl rfl rfl rfl ?_) | refine gi_seq ?_ | refine gi_plain ?_ | refine gi_skip ?_ | refine gi_block ?_))
        refine r_idx (row := n.row) hT rfl rfl rfl rfl rfl rfl rfl rfl rfl rfl rfl rfl (by show (0 : Int) ≤ (k : Int); omega) (by simp [hn]) ?_
        (repeat ((refine r_op ?_; first | refine r_pure hT rfl rfl rfl rfl rfl rfl ?_ | refine r_load hT rfl rfl rfl rfl rfl rfl rfl rfl rfl ?_)))
        refine r_case (d := 37) rfl (fun c1 => ?_) (fun c1 => ?_)
        · (repeat (first | refine r_end ?_ | (refine r_op ?_; first | refine r_pure hT rfl rfl rfl rfl rfl rfl ?_ | refine r_off rfl rfl rfl rfl rfl ?_) | refine gi_plain ?_ | refine gi_exit rfl ?_ | (refine gi_cnd ?_; first | refine gi_true rfl ?_ | refine gi_false rfl ?_)))
          exact on e (hE.skip hn hy (.inl (fun h => by rw [notB_eq, eqB_eq, h] at c1; simp at c1))) _ _ _ ⟨rfl, rfl, rfl, rfl, rfl, rfl, rfl, trivial⟩ ⟨rfl, trivial⟩ ⟨rfl, trivial⟩
        have hp : n.p = i := by
          rw [notB_eq, eqB_eq] at c1
          simpa using c1
        (repeat ((refine r_op ?_; refine r_pure hT rfl rfl rfl rfl rfl rfl ?_)))
        refine r_idxS hT rfl rfl rfl rfl rfl rfl rfl rfl rfl rfl rfl rfl rfl (by show (0 : Int) ≤ (k : Int); omega) (by show ((k : Nat) : Int).toNat < (o.map nRow).length; rw [List.length_map]; omega) ?_
        skip
        refine r_loadS (row := nRow y) hT rfl rfl rfl rfl rfl rfl rfl rfl (by show (o.map nRow)[((k : Nat) : Int).toNat]? = _; rw [Int.toNat_natCast, List.getElem?_map, hy]; rfl) rfl rfl rfl ?_
        (repeat (first | refine r_end ?_ | (refine r_op ?_; refine r_pure hT rfl rfl rfl rfl rfl rfl ?_)))
        refine gi_lt (p := y) (q := 0) rfl (fun h5 => ?_) (fun h5 => ?_)
        · (repeat (first | refine r_end ?_ | (refine r_op ?_; refine r_pure hT rfl rfl rfl rfl rfl rfl ?_) | refine gi_plain ?_ | refine gi_exit rfl ?_))
          exact on e (hE.skip hn hy (.inr h5)) _ _ _ ⟨rfl, rfl, rfl, rfl, rfl, rfl, rfl, trivial⟩ ⟨rfl, trivial⟩ ⟨rfl, trivial⟩
        (repeat (first | (refine r_op ?_; refine r_pure hT rfl rfl rfl rfl rfl rfl ?_) | refine gi_seq ?_ | refine gi_plain ?_ | refine gi_skip ?_))
        refine r_idxS hT rfl rfl rfl rfl rfl rfl rfl rfl rfl rfl rfl rfl rfl (by show (0 : Int) ≤ (k : Int); omega) (by show ((k : Nat) : Int).toNat < (o.map nRow).length; rw [List.length_map]; omega) ?_
        skip
        refine r_loadS (row := nRow y) hT rfl rfl rfl rfl rfl rfl rfl rfl (by show (o.map nRow)[((k : Nat) : Int).toNat]? = _; rw [Int.toNat_natCast, List.getElem?_map, hy]; rfl) rfl rfl rfl ?_
        (repeat (first | refine r_end ?_ | (refine r_op ?_; refine r_pure hT rfl rfl rfl rfl rfl rfl ?_) | refine gi_seq ?_))
        apply gi_cut (σ := Unit) (fun _ => [(11, I (y + cR x n)), (10, I (k : Int)), (9, I e), (8, I (i : Int)), (7, .sl 0), (0, rsNd t), (2, rsV ms), (4, .box 0 0)]) (fun _ => [hMf m]) (fun _ => [eN o]) (fun _ => True) (fun _ => rfl)
        case first =>
          intro fin2
          (repeat (first | (refine r_op ?_; refine r_pure hT rfl rfl rfl rfl rfl rfl ?_) | refine gi_plain ?_))
          refine r_idx (row := x.row) hT rfl rfl rfl rfl rfl rfl rfl rfl rfl rfl rfl rfl (by show (0 : Int) ≤ (i : Int); omega) (by simp [hx]) ?_
          (repeat ((refine r_op ?_; first | refine r_pure hT rfl rfl rfl rfl rfl rfl ?_ | refine r_load hT rfl rfl rfl rfl rfl rfl rfl rfl rfl ?_)))
          refine r_case (d := 55) rfl (fun d1 => ?_) (fun d1 => ?_)
          · have hc : cR x n = 1 := if_pos (.inl (by rw [eqB_eq] at d1; exact of_decide_eq_true d1))
            (repeat (first | refine r_end ?_ | (refine r_op ?_; first | refine r_pure hT rfl rfl rfl rfl rfl rfl ?_ | refine r_off rfl rfl rfl rfl rfl ?_) | refine gi_seq ?_ | refine gi_plain_ne 13 rfl ?_ | (refine gi_cnd ?_; first | refine gi_true rfl ?_ | refine gi_false rfl ?_)))
            exact fin2 () _ _ _ trivial ⟨by show some (I _) = some (I (y + cR x n)); rw [hc, wr_i64 (by omega) (by omega)], rfl, rfl, rfl, rfl, rfl, rfl, rfl, trivial⟩ ⟨rfl, trivial⟩ ⟨rfl, trivial⟩
          · have d1 : x.v.k ≠ 2 := by rw [eqB_eq] at d1; exact of_decide_eq_false d1
            (repeat ((refine r_op ?_; refine r_pure hT rfl rfl rfl rfl rfl rfl ?_)))
            refine r_idx (row := n.row) hT rfl rfl rfl rfl rfl rfl rfl rfl rfl rfl rfl rfl (by show (0 : Int) ≤ (k : Int); omega) (by simp [hn]) ?_
            (repeat (first | refine r_end ?_ | (refine r_op ?_; first | refine r_pure hT rfl rfl rfl rfl rfl rfl ?_ | refine r_load hT rfl rfl rfl rfl rfl rfl rfl rfl rfl ?_)))
            refine gi_eq (p := n.v.k) (q := 1) rfl (fun d2 => ?_) (fun d2 => ?_)
            · have hc : cR x n = 1 := if_pos (.inr d2)
              (repeat (first | refine r_end ?_ | (refine r_op ?_; refine r_pure hT rfl rfl rfl rfl rfl rfl ?_) | refine gi_seq ?_ | refine gi_plain_ne 13 rfl ?_))
              exact fin2 () _ _ _ trivial ⟨by show some (I _) = some (I (y + cR x n)); rw [hc, wr_i64 (by omega) (by omega)], rfl, rfl, rfl, rfl, rfl, rfl, rfl, trivial⟩ ⟨rfl, trivial⟩ ⟨rfl, trivial⟩
            · have hc : cR x n = 0 := if_neg (fun h => by rcases h with h | h <;> contradiction)
              (repeat (first | refine gi_seq ?_ | refine gi_skip ?_))
              exact fin2 () _ _ _ trivial ⟨by show some (I _) = some (I (y + cR x n)); rw [hc, Int.add_zero], rfl, rfl, rfl, rfl, rfl, rfl, rfl, trivial⟩ ⟨rfl, trivial⟩ ⟨rfl, trivial⟩
        case after =>
          intro _ _
          have hadd := hE.add (by omega) hn hy hp (by omega)
          (repeat (first | (refine r_op ?_; refine r_pure hT rfl rfl rfl rfl rfl rfl ?_) | refine gi_plain ?_))
          refine r_case (d := 68) rfl (fun g1 => ?_) (fun g1 => ?_)
          · rw [ltB_eq] at g1
            have g1 := of_decide_eq_true g1
            rw [if_pos (.inl g1)] at hadd
            (repeat (first | refine r_end ?_ | (refine r_op ?_; first | refine r_pure hT rfl rfl rfl rfl rfl rfl ?_ | refine r_off rfl rfl rfl rfl rfl ?_) | refine gi_plain ?_ | refine gi_inBlock ?_ | (refine gi_cnd ?_; first | refine gi_true rfl ?_ | refine gi_false rfl ?_)))
            exact on _ hadd _ _ _ ⟨rfl, rfl, rfl, rfl, rfl, rfl, rfl, trivial⟩ ⟨rfl, trivial⟩ ⟨rfl, trivial⟩
          · rw [ltB_eq] at g1
            have g1 := of_decide_eq_false g1
            (repeat (first | refine r_end ?_ | (refine r_op ?_; refine r_pure hT rfl rfl rfl rfl rfl rfl ?_)))
            refine gi_lt (p := y + cR x n) (q := e) rfl (fun g2 => ?_) (fun g2 => ?_)
            · rw [if_pos (.inr g2)] at hadd
              (repeat (first | refine r_end ?_ | (refine r_op ?_; refine r_pure hT rfl rfl rfl rfl rfl rfl ?_) | refine gi_plain ?_ | refine gi_inBlock ?_))
              exact on _ hadd _ _ _ ⟨rfl, rfl, rfl, rfl, rfl, rfl, rfl, trivial⟩ ⟨rfl, trivial⟩ ⟨rfl, trivial⟩
            · rw [if_neg (fun h => by rcases h with h | h <;> contradiction)] at hadd
              (repeat (first | refine r_end ?_ | (refine r_op ?_; refine r_pure hT rfl rfl rfl rfl rfl rfl ?_) | refine gi_plain ?_ | refine gi_skip ?_ | refine gi_inBlock ?_))
              exact on _ hadd _ _ _ ⟨rfl, rfl, rfl, rfl, rfl, rfl, rfl, trivial⟩ ⟨rfl, trivial⟩ ⟨rfl, trivial⟩
      · rw [List.length_map] at h4
        have hkl : k = t.length := by omega
        subst hkl
        clear next2
        (repeat (first | refine gi_seq ?_ | refine gi_block ?_ | refine gi_exit rfl ?_))
        exact fin e _ _ _ hE ⟨rfl, rfl, rfl, rfl, rfl, rfl, trivial⟩ ⟨rfl, trivial⟩ ⟨rfl, trivial⟩
    case after =>
    intro e hE
    have hst := hP.step hx hxk hE
    apply gi_cut (σ := Unit) (fun _ => [(9, I (valP m.wl ms x e)), (8, I (i : Int)), (7, .sl 0), (0, rsNd t), (2, rsV ms), (4, .box 0 0)]) (fun _ => [hMf m]) (fun _ => [eN o]) (fun _ => True) (fun _ => rfl)
    case first =>
      intro fin3
      refine gi_drawM [] [(0, .p), (1, .p), (2, .p), (3, .p), (4, .p), (5, .t), (6, .p), (7, .p), (8, .p), (10, .p), (11, .p), (12, .p), (13, .p), (14, .p), (9, .t), (15, .t), (16, .o), (17, .p), (18, .p)] [0, 0, 3, 4, 8, 16, 32, 64, 128, 384, 128, 128, 3200, 4224, 8320, 16512, 33408, 65664, 196608] [0, 0, 3, 4, 8, 16, 32, 64, 128, 384, 128, 128, 3200, 4224, 8320, 16512, 33408, 65664, 131072] hm rfl (by kernel_rfl) (fun w1 K => ?_)
      (repeat ((refine r_op ?_; refine r_pure hT rfl rfl rfl rfl rfl rfl ?_)))
      refine r_idx (row := x.row) hT rfl rfl rfl rfl rfl rfl rfl rfl rfl rfl rfl rfl (by show (0 : Int) ≤ (i : Int); omega) (by simp [hx]) ?_
      (repeat ((refine r_op ?_; first | refine r_pure hT rfl rfl rfl rfl rfl rfl ?_ | refine r_load hT rfl rfl rfl rfl rfl rfl rfl rfl rfl ?_)))
      refine r_case (d := 82) rfl (fun w1 => ?_) (fun w1 => ?_)
      · have hk1 : x.v.k = 1 := by rw [eqB_eq] at w1; exact of_decide_eq_true w1
        (repeat ((refine r_op ?_; refine r_pure hT rfl rfl rfl rfl rfl rfl ?_)))
        refine r_idx (row := x.row) hT rfl rfl rfl rfl rfl rfl rfl rfl rfl rfl rfl rfl (by show (0 : Int) ≤ (i : Int); omega) (by simp [hx]) ?_
        (repeat ((refine r_op ?_; first | refine r_pure hT rfl rfl rfl rfl rfl rfl ?_ | refine r_load hT rfl rfl rfl rfl rfl rfl rfl rfl rfl ?_)))
        refine r_thaw 84 rfl ?_
        refine r_call (Has_ok m.wl x.v.i hw) rfl rfl rfl rfl rfl rfl rfl rfl Try.func57 rfl rfl rfl pB ?_
        rintro r2 S2 ⟨rfl, rfl⟩
        (repeat (first | refine r_end ?_ | (refine r_op ?_; refine r_pure hT rfl rfl rfl rfl rfl rfl ?_)))
        refine gi_cond rfl (fun hwd => ?_) (fun hwd => ?_)
        · have hw1 : isW m.wl x = true := by unfold isW; rw [← contains_any, hwd, decide_eq_true hk1]; rfl
          (repeat (first | refine r_end ?_ | (refine r_op ?_; refine r_pure hT rfl rfl rfl rfl rfl rfl ?_) | refine gi_plain_ne 19 rfl ?_ | refine gi_inBlock ?_))
          exact fin3 () _ _ _ trivial ⟨by show some (I _) = some (I (valP m.wl ms x e)); unfold valP; rw [if_pos hw1], rfl, rfl, rfl, rfl, rfl, trivial⟩ ⟨rfl, trivial⟩ ⟨rfl, trivial⟩
        · have hw0 : isW m.wl x = false := by unfold isW; rw [← contains_any, hwd, Bool.and_false]
          (repeat (first | (refine r_op ?_; refine r_pure hT rfl rfl rfl rfl rfl rfl ?_) | refine gi_seq ?_ | refine gi_plain ?_))
          refine r_idx (row := x.row) hT rfl rfl rfl rfl rfl rfl rfl rfl rfl rfl rfl rfl (by show (0 : Int) ≤ (i : Int); omega) (by simp [hx]) ?_
          (repeat ((refine r_op ?_; first | refine r_pure hT rfl rfl rfl rfl rfl rfl ?_ | refine r_load hT rfl rfl rfl rfl rfl rfl rfl rfl rfl ?_)))
          refine r_call (in17_ok ms x.v hms) rfl rfl rfl rfl rfl rfl rfl rfl Try.func58 rfl rfl rfl pB ?_
          rintro r3 S3 ⟨rfl, rfl⟩
          (repeat (first | refine r_end ?_ | (refine r_op ?_; refine r_pure hT rfl rfl rfl rfl rfl rfl ?_)))
          refine gi_cond rfl (fun hmb => ?_) (fun hmb => ?_)
          · have hmb : isMb ms x = true := hmb
            (repeat (first | refine r_end ?_ | (refine r_op ?_; refine r_pure hT rfl rfl rfl rfl rfl rfl ?_) | refine gi_plain_ne 19 rfl ?_ | refine gi_inBlock ?_))
            exact fin3 () _ _ _ trivial ⟨by show some (I _) = some (I (valP m.wl ms x e)); unfold valP; rw [if_neg (by rw [hw0]; decide), if_pos hmb], rfl, rfl, rfl, rfl, rfl, trivial⟩ ⟨rfl, trivial⟩ ⟨rfl, trivial⟩
          · have hmb : isMb ms x = false := hmb
            (repeat (first | refine gi_skip ?_ | refine gi_inBlock ?_))
            exact fin3 () _ _ _ trivial ⟨by show some (I _) = some (I (valP m.wl ms x e)); unfold valP; rw [if_neg (by rw [hw0]; decide), if_neg (by rw [hmb]; decide)], rfl, rfl, rfl, rfl, rfl, trivial⟩ ⟨rfl, trivial⟩ ⟨rfl, trivial⟩
      · have hk1 : x.v.k ≠ 1 := by rw [eqB_eq] at w1; exact of_decide_eq_false w1
        have hw0 : isW m.wl x = false := by unfold isW; rw [decide_eq_false hk1]; rfl
        (repeat (first | refine r_end ?_ | (refine r_op ?_; first | refine r_pure hT rfl rfl rfl rfl rfl rfl ?_ | refine r_off rfl rfl rfl rfl rfl ?_) | refine gi_seq ?_ | refine gi_plain ?_ | (refine gi_cnd ?_; first | refine gi_true rfl ?_ | refine gi_false rfl ?_)))
        refine r_idx (row := x.row) hT rfl rfl rfl rfl rfl rfl rfl rfl rfl rfl rfl rfl (by show (0 : Int) ≤ (i : Int); omega) (by simp [hx]) ?_
        (repeat ((refine r_op ?_; first | refine r_pure hT rfl rfl rfl rfl rfl rfl ?_ | refine r_load hT rfl rfl rfl rfl rfl rfl rfl rfl rfl ?_)))
        refine r_call (in17_ok ms x.v hms) rfl rfl rfl rfl rfl rfl rfl rfl Try.func58 rfl rfl rfl pB ?_
        rintro r3 S3 ⟨rfl, rfl⟩
        (repeat (first | refine r_end ?_ | (refine r_op ?_; refine r_pure hT rfl rfl rfl rfl rfl rfl ?_)))
        refine gi_cond rfl (fun hmb => ?_) (fun hmb => ?_)
        · have hmb : isMb ms x = true := hmb
          (repeat (first | refine r_end ?_ | (refine r_op ?_; refine r_pure hT rfl rfl rfl rfl rfl rfl ?_) | refine gi_plain_ne 19 rfl ?_ | refine gi_inBlock ?_))
          exact fin3 () _ _ _ trivial ⟨by show some (I _) = some (I (valP m.wl ms x e)); unfold valP; rw [if_neg (by rw [hw0]; decide), if_pos hmb], rfl, rfl, rfl, rfl, rfl, trivial⟩ ⟨rfl, trivial⟩ ⟨rfl, trivial⟩
        · have hmb : isMb ms x = false := hmb
          (repeat (first | refine gi_skip ?_ | refine gi_inBlock ?_))
          exact fin3 () _ _ _ trivial ⟨by show some (I _) = some (I (valP m.wl ms x e)); unfold valP; rw [if_neg (by rw [hw0]; decide), if_neg (by rw [hmb]; decide)], rfl, rfl, rfl, rfl, rfl, trivial⟩ ⟨rfl, trivial⟩ ⟨rfl, trivial⟩
    case after =>
    intro _ _
    (repeat (first | (refine r_op ?_; refine r_pure hT rfl rfl rfl rfl rfl rfl ?_) | refine gi_plain ?_))
    refine r_idxS hT rfl rfl rfl rfl rfl rfl rfl rfl rfl rfl rfl rfl rfl (by show (0 : Int) ≤ (i : Int); omega) (by show ((i : Nat) : Int).toNat < (o.map nRow).length; rw [List.length_map]; omega) ?_
    skip
    refine r_storeS (row := nRow (o[i]'(by omega))) hT rfl rfl rfl rfl rfl rfl rfl rfl rfl rfl rfl rfl rfl (by show (List.map nRow _)[((i : Nat) : Int).toNat]? = _; rw [Int.toNat_natCast, List.getElem?_map, List.getElem?_eq_getElem (by omega)]; rfl) ?_
    (repeat (first | refine r_end ?_ | (refine r_op ?_; refine r_pure hT rfl rfl rfl rfl rfl rfl ?_) | refine gi_plain ?_ | refine gi_inBlock ?_))
    refine next (i, o.set i (valP m.wl ms x e)) _ _ _ ⟨by simp only; omega, hst⟩ (by simp only; omega) ⟨?_, rfl, rfl, rfl, rfl, trivial⟩ ⟨rfl, trivial⟩ ⟨?_, trivial⟩
    · show some (I (wr .i64 ((i : Int) - 1))) = _
      rw [wr_i64 (by omega) (by omega)]
    · show eN (o.set i (valP m.wl ms x e)) = some (⟨_, _, (o.map nRow).set ((i : Nat) : Int).toNat (nRow (valP m.wl ms x e)), _⟩ : SE)
      rw [Int.toNat_natCast, ← List.map_set]
  · have hi00 : i0 = 0 := by omega
    subst hi00
    (repeat (first | refine r_end ?_ | (refine r_op ?_; refine r_pure hT rfl rfl rfl rfl rfl rfl ?_) | refine gi_seq ?_ | refine gi_plain ?_ | refine gi_exit rfl ?_))
    refine gi_retX hT Try.func24 rfl [] [0] rfl rfl rfl rfl rfl rfl rfl rfl ?_
    exact ⟨rfl, rfl, o, rfl, hP.rch⟩
end Go.Proofs.Ytmocggibcniggaa.Kt
