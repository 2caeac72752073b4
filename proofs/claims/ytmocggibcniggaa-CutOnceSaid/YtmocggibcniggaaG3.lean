/- Part of the proofs of this seat's statements: what the functions compute. No condition. -/
import Derived.Test.YtmocggibcniggaaG2
import Derived.Test.YtmocggibcniggaaK4
import Derived.Test.YtmocggibcniggaaG1
import Derived.Shelf.SlSortCmp.WholeK
set_option linter.unusedSimpArgs false
set_option linter.unusedVariables false
namespace Go.Proofs.Ytmocggibcniggaa.Kt
open Go Kw Go.Proofs
attribute [local irreducible] Kw.GI Kw.GR Kw.FnR Kw.FnX
set_option maxHeartbeats 8000000
set_option maxRecDepth 100000
theorem F5_box {d : Nat} {x : AV} (h : Fr.get F5 d = some x) : ∃ i off, x = .box i off := by
  simp only [Fr.get] at h
  repeat' (split at h)
  all_goals first | (cases h; exact ⟨_, _, rfl⟩) | (cases h)
theorem pBk {t : List Nd} : ∀ r H1 S1, (r = .fn 81 [.box 0 0] ∧ H1 = [hTt t] ∧ S1 = []) → stA r = true ∧ StH H1 ∧ StS S1 := by
  rintro r H S ⟨rfl, rfl, rfl⟩
  refine ⟨rfl, fun e he t cs hs => ?_, fun e he => by cases he⟩
  simp only [List.mem_cons, List.not_mem_nil, or_false] at he
  rcases he with rfl
  cases hs
  show (stLL (t.map Nd.row) && true) = true
  rw [stLL_Nd]; rfl
theorem it_gen {P : Program} {g : FuncId} {l : Nat} {r0 : Loop} {xs : List AV} {Fs : Fr} {H : Hp} {S : Sp} {Post : Hp → Sp → Prop} (h : ∀ r, r = r0 → ItSpec P g l r xs Fs H S Post) : ItSpec P g l r0 xs Fs H S Post := h r0 rfl
theorem rd_intro2 {P : Program} {T : Tab} {l : Nat} {r : Loop} {fn : Func} {n p0 p1 : Nat} {x0 x1 : AV} {Fs : Fr} {H : Hp} {S : Sp} {Post : Hp → Sp → Prop} {A B : Code} {f : FuncId} (hr : r = ready r) (hps : r.params = #[p0, p1]) (hn : r.tmps.size = n) (h0 : Nat.blt p0 n = true) (h1 : Nat.blt p1 n = true) (hA : r.assign = A) (hB : r.body = B) (hf : r.fn = f)
    (h : ∀ (w : World) (X : Org), X.nb = H.length ∧ X.nv = 0 → w.heap[l]? = some (.loop r) → Far w X l → GI ⟨P, T, f, fn, n, w, X, RetY w X Post, some l, false, []⟩ [.code A, .beginRound, .code B] ((p1, x1) :: (p0, x0) :: Fs) H S) : RdSpec P l r [x0, x1] Fs H S Post := by
  subst hA hB hf
  exact rd_intro hr hps hn h0 h1 h
abbrev H7 (t : List Nd) (m : Mp) (ms : List Vt) (n : Nd) : Hp := [hTt t, hMf m, hVs ms, hSl 0, hSl 1, hTt t, hNd n]
theorem valR_w {w : List Int} {ms : List Vt} {n : Nd} {e : Int} (h : isW w n = true) : valR w ms n e = 0 := by unfold valR; rw [if_pos h]
theorem valR_m {w : List Int} {ms : List Vt} {n : Nd} {e : Int} (h : isW w n = false) (h2 : isMb ms n = true) : valR w ms n e = 1 := by unfold valR; rw [if_neg (by rw [h]; decide), if_pos h2]
theorem valR_r {w : List Int} {ms : List Vt} {n : Nd} {e : Int} (h : isW w n = false) (h2 : isMb ms n = false) (h3 : n.v.k = 1) : valR w ms n e = e := by unfold valR; rw [if_neg (by rw [h]; decide), if_neg (by rw [h2]; decide), if_neg (fun hh => hh.1 h3)]
theorem valR_n {w : List Int} {ms : List Vt} {n : Nd} {e : Int} (h : isW w n = false) (h2 : isMb ms n = false) (h3 : ¬ 0 ≤ e) : valR w ms n e = e := by unfold valR; rw [if_neg (by rw [h]; decide), if_neg (by rw [h2]; decide), if_neg (fun hh => h3 hh.2)]
theorem valR_p {w : List Int} {ms : List Vt} {n : Nd} {e : Int} (h : isW w n = false) (h2 : isMb ms n = false) (h3 : n.v.k ≠ 1) (h4 : 0 ≤ e) : valR w ms n e = e + 1 := by unfold valR; rw [if_neg (by rw [h]; decide), if_neg (by rw [h2]; decide), if_pos ⟨h3, h4⟩]
theorem pReach_ok (t : List Nd) (m : Mp) (ms : List Vt) (hl : t.length < 1000000) (hw : m.wl.length < 1000000) (hms : ms.length < 1000000) : FnX Try.prog 23 [fsNd t, avMf m, rsV ms] [] [] (fun r H S => r = .sl 0 ∧ H = [] ∧ ∃ o, S = [eN o] ∧ Rch t m.wl ms o) := by
  refine fnX_intro (T := TT) (n := 107) Try.func23 rfl rfl rfl (fun w X Z Y B => ?_)
  (repeat (first | refine r_end ?_ | (refine r_op ?_; first | refine r_pure hT rfl rfl rfl rfl rfl rfl ?_ | refine r_load hT rfl rfl rfl rfl rfl rfl rfl rfl rfl ?_ | refine r_box rfl rfl rfl rfl rfl rfl rfl rfl rfl ?_) | refine gi_seq ?_ | refine gi_plain ?_))
  refine r_make (n := (t.length : Int)) hT rfl rfl rfl rfl rfl rfl rfl (by show some (I (((t.map Nd.row).length : Nat) : Int)) = _; rw [List.length_map]) (by show some (I (((t.map Nd.row).length : Nat) : Int)) = _; rw [List.length_map]) rfl rfl rfl rfl rfl rfl (by omega) ⟨by rw [Int.toNat_natCast]; simp only [maxLen]; omega, by rw [Int.toNat_natCast]; show 8 * t.length ≤ _; omega⟩ ?_
  (repeat (first | refine r_end ?_ | (refine r_op ?_; first | refine r_pure hT rfl rfl rfl rfl rfl rfl ?_ | refine r_load hT rfl rfl rfl rfl rfl rfl rfl rfl rfl ?_ | refine r_store hT rfl rfl rfl rfl rfl rfl rfl rfl rfl rfl ?_ | refine r_alloc hT rfl rfl rfl rfl rfl rfl rfl rfl rfl ?_) | refine gi_seq ?_ | refine gi_plain ?_))
  refine r_make (n := (t.length : Int)) hT rfl rfl rfl rfl rfl rfl rfl (by show some (I (((t.map Nd.row).length : Nat) : Int)) = _; rw [List.length_map]) (by show some (I (((t.map Nd.row).length : Nat) : Int)) = _; rw [List.length_map]) rfl rfl rfl rfl rfl rfl (by omega) ⟨by rw [Int.toNat_natCast]; simp only [maxLen]; omega, by rw [Int.toNat_natCast]; show 8 * t.length ≤ _; omega⟩ ?_
  (repeat (first | refine r_end ?_ | (refine r_op ?_; first | refine r_pure hT rfl rfl rfl rfl rfl rfl ?_ | refine r_load hT rfl rfl rfl rfl rfl rfl rfl rfl rfl ?_ | refine r_store hT rfl rfl rfl rfl rfl rfl rfl rfl rfl rfl ?_ | refine r_alloc hT rfl rfl rfl rfl rfl rfl rfl rfl rfl ?_) | refine gi_seq ?_ | refine gi_plain ?_ | refine gi_block ?_))
  have hrep : List.replicate (t.length : Int).toNat (zRow [Value.int IntKind.i64 0]) = (List.replicate t.length (0 : Int)).map nRow := by rw [Int.toNat_natCast, List.map_replicate]; rfl
  refine gi_loop (σ := Nat × List Int) (fun s => [(22, I (s.1 : Int)), (21, I (t.length : Int)), (3, .box 0 0), (4, .box 1 0), (5, .box 2 0), (7, .box 3 0), (8, .box 4 0)]) (fun _ => [hTt t, hMf m, hVs ms, hSl 0, hSl 1]) (fun s => [eN (List.replicate t.length 0), eN s.2]) (fun s => s.1 ≤ t.length ∧ s.2.length = t.length ∧ ∀ k, k < s.1 → s.2[k]? = some (-1)) (fun s => t.length - s.1) (0, List.replicate t.length 0) ⟨Nat.zero_le _, by simp, fun k hk => absurd hk (Nat.not_lt_zero _)⟩ ⟨rfl, ?_, rfl, rfl, rfl, rfl, rfl, trivial⟩ ⟨rfl, rfl, rfl, rfl, rfl, trivial⟩ ⟨?_, ?_, trivial⟩ (fun _ => rfl) (fun s hs next => ?_)
  · show some (I (((List.replicate (t.length : Int).toNat (zRow [Value.int IntKind.i64 0])).length : Nat) : Int)) = _
    rw [hrep, List.length_map, List.length_replicate]
  · show eN (List.replicate t.length 0) = some (⟨_, _, List.replicate (t.length : Int).toNat (zRow [Value.int IntKind.i64 0]), _⟩ : SE)
    rw [hrep]
  · show eN (List.replicate t.length 0) = some (⟨_, _, List.replicate (t.length : Int).toNat (zRow [Value.int IntKind.i64 0]), _⟩ : SE)
    rw [hrep]
  obtain ⟨j, d⟩ := s
  obtain ⟨hj, hld, hk⟩ := hs
  simp only at hj hld hk
  (repeat (first | refine r_end ?_ | (refine r_op ?_; refine r_pure hT rfl rfl rfl rfl rfl rfl ?_) | refine gi_seq ?_ | refine gi_plain ?_))
  refine gi_lt (p := (j : Int)) rfl (fun h3 => ?_) (fun h3 => ?_)
  · have hjl' : j + 1 ≤ t.length := by omega
    have hjl : j < d.length := by omega
    (repeat (first | refine r_end ?_ | (refine r_op ?_; first | refine r_pure hT rfl rfl rfl rfl rfl rfl ?_ | refine r_load hT rfl rfl rfl rfl rfl rfl rfl rfl rfl ?_) | refine gi_seq ?_ | refine gi_plain ?_ | refine gi_skip ?_ | refine gi_block ?_))
    refine r_idxS hT rfl rfl rfl rfl rfl rfl rfl rfl rfl rfl rfl rfl rfl (by show (0 : Int) ≤ (j : Int); omega) (by show ((j : Nat) : Int).toNat < (d.map nRow).length; rw [List.length_map]; omega) ?_
    skip
    refine r_storeS (row := nRow d[j]) hT rfl rfl rfl rfl rfl rfl rfl rfl rfl rfl rfl rfl rfl (by show (List.map nRow _)[((j : Nat) : Int).toNat]? = _; rw [Int.toNat_natCast, List.getElem?_map, List.getElem?_eq_getElem hjl]; rfl) ?_
    (repeat (first | refine r_end ?_ | (refine r_op ?_; refine r_pure hT rfl rfl rfl rfl rfl rfl ?_) | refine gi_plain ?_ | refine gi_inBlock ?_))
    refine next (j + 1, d.set j (-1)) _ _ _ ⟨hjl', by rw [List.length_set]; exact hld, fun k hkj => ?_⟩ (by simp only; omega) ⟨?_, rfl, rfl, rfl, rfl, rfl, rfl, trivial⟩ ⟨rfl, rfl, rfl, rfl, rfl, trivial⟩ ⟨rfl, ?_, trivial⟩
    · by_cases e : k = j
      · subst e; exact List.getElem?_set_self hjl
      · rw [List.getElem?_set_ne (fun h => e h.symm)]; exact hk k (by omega)
    · show some (I (wr .i64 ((j : Int) + 1))) = _
      rw [wr_i64 (by omega) (by omega)]
      simp
    · show eN (d.set j (-1)) = some (⟨_, _, (d.map nRow).set ((j : Nat) : Int).toNat (nRow (-1)), _⟩ : SE)
      rw [Int.toNat_natCast, ← List.map_set]
  have hd : d = List.replicate t.length (-1) := by
    refine List.eq_replicate_iff.2 ⟨hld, fun b hb => ?_⟩
    obtain ⟨k, hkb⟩ := List.mem_iff_getElem?.1 hb
    have := (List.getElem?_eq_some_iff.1 hkb).1
    rw [hk k (by omega)] at hkb
    exact (Option.some.inj hkb).symm
  subst hd
  (repeat (first | (refine r_op ?_; refine r_load hT rfl rfl rfl rfl rfl rfl rfl rfl rfl ?_) | refine gi_seq ?_ | refine gi_plain ?_ | refine gi_exit rfl ?_))
  refine r_callX [] [] (Backward_ok t) rfl rfl rfl rfl rfl rfl Try.func53 rfl rfl rfl rfl rfl rfl rfl pBk ?_
  rintro r H1 S1 ⟨rfl, rfl, rfl⟩
  (repeat (first | refine r_end ?_ | refine gi_block ?_))
  refine gi_range (g := 81) (cap := [.box 5 0]) (Fs := F5) (Post := fun H S => H = H6 t m ms ∧ ∃ o' d', S = [eN o', eN d'] ∧ RInv t m.wl ms 0 o' d') rfl rfl rfl rfl rfl rfl (fun d x hx => ⟨SubF_get (F' := F5) ⟨rfl, rfl, rfl, rfl, rfl, trivial⟩ hx, F5_box hx⟩) rfl rfl (fun l tmps D htm => ?_) ?_
  · refine it_gen (fun r hr => ?_)
    have hrr : r = ready r := by subst hr; rfl
    have hst : r.state = .ready := by subst hr; rfl
    refine iter_ok hl (by subst hr; rfl) (fun i => RInv t m.wl ms i) _ _ (RInv.zero t m.wl ms) (fun i np o d hnp hI => ?_)
    refine rd_intro2 (T := TT) (n := 107) (fn := Try.f23) (f := 23) (p0 := 31) (p1 := 32) hrr (by subst hr; rfl) (by subst hr; exact htm) rfl rfl (congrArg Loop.assign hr) (congrArg Loop.body hr) (by subst hr; rfl) (fun wv X1 hX1 hwl1 hf1 => ?_)
    clear hr
    obtain ⟨xX, xZ, xY, xnb, xB, xnv, xV⟩ := X1
    obtain ⟨hX1, hX1v⟩ := hX1
    have hX1 : xnb = 6 := hX1
    have hX1v : xnv = 0 := hX1v
    subst hX1
    subst hX1v
    (repeat (first | refine r_end ?_ | (refine r_op ?_; first | refine r_pure hT rfl rfl rfl rfl rfl rfl ?_ | refine r_store hT rfl rfl rfl rfl rfl rfl rfl rfl rfl rfl ?_ | refine r_alloc hT rfl rfl rfl rfl rfl rfl rfl rfl rfl ?_) | refine gi_seq ?_ | refine gi_plain ?_))
    refine gi_begin (l := l) (r := r) rfl hwl1 hst hf1 ?_
    (repeat (first | (refine r_op ?_; first | refine r_pure hT rfl rfl rfl rfl rfl rfl ?_ | refine r_load hT rfl rfl rfl rfl rfl rfl rfl rfl rfl ?_) | refine gi_seq ?_ | refine gi_plain ?_ | refine gi_block ?_))
    obtain ⟨e, he⟩ : ∃ e, d[i]? = some e := ⟨_, List.getElem?_eq_getElem (by rw [hI.ld]; exact (List.getElem?_eq_some_iff.1 hnp).1)⟩
    have hil := (List.getElem?_eq_some_iff.1 hnp).1
    have hidl : i < d.length := by rw [hI.ld]; exact hil
    have hiol : i < o.length := by rw [hI.lo]; exact hil
    have hvb := hI.vb hnp he
    have heu := hI.eup hnp he
    refine r_idxS hT rfl rfl rfl rfl rfl rfl rfl rfl rfl rfl rfl rfl rfl (by show (0 : Int) ≤ (i : Int); omega) (by show ((i : Nat) : Int).toNat < (d.map nRow).length; rw [List.length_map]; omega) ?_
    skip
    refine r_loadS (row := nRow e) hT rfl rfl rfl rfl rfl rfl rfl rfl (by show (d.map nRow)[((i : Int)).toNat]? = _; rw [Int.toNat_natCast, List.getElem?_map, he]; rfl) rfl rfl rfl ?_
    (repeat (first | refine r_end ?_ | (refine r_op ?_; first | refine r_pure hT rfl rfl rfl rfl rfl rfl ?_ | refine r_load hT rfl rfl rfl rfl rfl rfl rfl rfl rfl ?_) | refine gi_seq ?_ | refine gi_plain_ne 13 rfl ?_ | refine gi_block ?_))
    apply gi_cut (σ := Unit) (fun _ => [(12, I (valR m.wl ms np e)), (13, Bo (eqB np.v.k 1)), (10, I (i : Int)), (11, .box 6 0), (3, .box 0 0), (4, .box 1 0), (5, .box 2 0), (7, .box 3 0), (8, .box 4 0)]) (fun _ => H7 t m ms np) (fun _ => [eN o, eN d]) (fun _ => True) (fun _ => rfl)
    case first =>
      intro fin
      (repeat (first | (refine r_op ?_; refine r_pure hT rfl rfl rfl rfl rfl rfl ?_) | refine gi_plain ?_))
      refine r_case (d := 43) rfl (fun hk => ?_) (fun hk => ?_)
      · have hk1 : np.v.k = 1 := by rw [eqB_eq] at hk; exact of_decide_eq_true hk
        (repeat ((refine r_op ?_; first | refine r_pure hT rfl rfl rfl rfl rfl rfl ?_ | refine r_load hT rfl rfl rfl rfl rfl rfl rfl rfl rfl ?_)))
        refine r_thaw 45 rfl ?_
        skip
        refine r_call (ContainsI_ok m.wl np.v.i hw) rfl rfl rfl rfl rfl rfl rfl rfl Try.func54 rfl rfl rfl pB ?_
        rintro r2 S2 ⟨rfl, rfl⟩
        (repeat (first | refine r_end ?_ | (refine r_op ?_; refine r_pure hT rfl rfl rfl rfl rfl rfl ?_)))
        refine gi_cond rfl (fun hwd => ?_) (fun hwd => ?_)
        · have hw1 : isW m.wl np = true := by unfold isW; rw [hwd, decide_eq_true hk1]; rfl
          (repeat (first | refine r_end ?_ | (refine r_op ?_; refine r_pure hT rfl rfl rfl rfl rfl rfl ?_) | refine gi_seq ?_ | refine gi_plain_ne 19 rfl ?_ | refine gi_inBlock ?_))
          exact fin () _ _ _ trivial ⟨by show some (I _) = some (I (valR m.wl ms np e)); rw [valR_w hw1], rfl, rfl, rfl, rfl, rfl, rfl, rfl, rfl, trivial⟩ ⟨rfl, rfl, rfl, rfl, rfl, rfl, rfl, trivial⟩ ⟨rfl, rfl, trivial⟩
        have hw0 : isW m.wl np = false := by unfold isW; rw [hwd, Bool.and_false]
        (repeat (first | (refine r_op ?_; first | refine r_pure hT rfl rfl rfl rfl rfl rfl ?_ | refine r_load hT rfl rfl rfl rfl rfl rfl rfl rfl rfl ?_) | refine gi_seq ?_ | refine gi_plain ?_))
        refine r_call (ContainsV_ok ms np.v hms) rfl rfl rfl rfl rfl rfl rfl rfl Try.func55 rfl rfl rfl pB ?_
        rintro r2 S2 ⟨rfl, rfl⟩
        (repeat (first | refine r_end ?_ | (refine r_op ?_; refine r_pure hT rfl rfl rfl rfl rfl rfl ?_)))
        refine gi_cond rfl (fun hmb => ?_) (fun hmb => ?_)
        · have hmb : isMb ms np = true := hmb
          (repeat (first | refine r_end ?_ | (refine r_op ?_; refine r_pure hT rfl rfl rfl rfl rfl rfl ?_) | refine gi_seq ?_ | refine gi_plain_ne 19 rfl ?_ | refine gi_inBlock ?_))
          exact fin () _ _ _ trivial ⟨by show some (I _) = some (I (valR m.wl ms np e)); rw [valR_m hw0 hmb], rfl, rfl, rfl, rfl, rfl, rfl, rfl, rfl, trivial⟩ ⟨rfl, rfl, rfl, rfl, rfl, rfl, rfl, trivial⟩ ⟨rfl, rfl, trivial⟩
        have hmb : isMb ms np = false := hmb
        (repeat (first | (refine r_op ?_; refine r_pure hT rfl rfl rfl rfl rfl rfl ?_) | refine gi_seq ?_ | refine gi_plain ?_))
        refine r_case (d := 59) rfl (fun h59 => ?_) (fun h59 => ?_)
        · rw [notB_eq, hk] at h59
          exact absurd h59 (by decide)
        · skip
          (repeat (first | refine r_end ?_ | (refine r_op ?_; first | refine r_pure hT rfl rfl rfl rfl rfl rfl ?_ | refine r_off rfl rfl rfl rfl rfl ?_) | refine gi_seq ?_ | refine gi_skip ?_ | refine gi_inBlock ?_ | (refine gi_cnd ?_; first | refine gi_true rfl ?_ | refine gi_false rfl ?_)))
          exact fin () _ _ _ trivial ⟨by show some (I _) = some (I (valR m.wl ms np e)); rw [valR_r hw0 hmb hk1], rfl, rfl, rfl, rfl, rfl, rfl, rfl, rfl, trivial⟩ ⟨rfl, rfl, rfl, rfl, rfl, rfl, rfl, trivial⟩ ⟨rfl, rfl, trivial⟩
      · have hk1 : np.v.k ≠ 1 := by rw [eqB_eq] at hk; exact of_decide_eq_false hk
        have hw0 : isW m.wl np = false := by unfold isW; rw [decide_eq_false hk1]; rfl
        (repeat (first | refine r_end ?_ | (refine r_op ?_; first | refine r_pure hT rfl rfl rfl rfl rfl rfl ?_ | refine r_load hT rfl rfl rfl rfl rfl rfl rfl rfl rfl ?_ | refine r_off rfl rfl rfl rfl rfl ?_) | refine gi_seq ?_ | refine gi_plain ?_ | (refine gi_cnd ?_; first | refine gi_true rfl ?_ | refine gi_false rfl ?_)))
        refine r_call (ContainsV_ok ms np.v hms) rfl rfl rfl rfl rfl rfl rfl rfl Try.func55 rfl rfl rfl pB ?_
        rintro r2 S2 ⟨rfl, rfl⟩
        (repeat (first | refine r_end ?_ | (refine r_op ?_; refine r_pure hT rfl rfl rfl rfl rfl rfl ?_)))
        refine gi_cond rfl (fun hmb => ?_) (fun hmb => ?_)
        · have hmb : isMb ms np = true := hmb
          (repeat (first | refine r_end ?_ | (refine r_op ?_; refine r_pure hT rfl rfl rfl rfl rfl rfl ?_) | refine gi_seq ?_ | refine gi_plain_ne 19 rfl ?_ | refine gi_inBlock ?_))
          exact fin () _ _ _ trivial ⟨by show some (I _) = some (I (valR m.wl ms np e)); rw [valR_m hw0 hmb], rfl, rfl, rfl, rfl, rfl, rfl, rfl, rfl, trivial⟩ ⟨rfl, rfl, rfl, rfl, rfl, rfl, rfl, trivial⟩ ⟨rfl, rfl, trivial⟩
        have hmb : isMb ms np = false := hmb
        (repeat (first | (refine r_op ?_; refine r_pure hT rfl rfl rfl rfl rfl rfl ?_) | refine gi_seq ?_ | refine gi_plain ?_))
        refine r_case (d := 59) rfl (fun h59 => ?_) (fun h59 => ?_)
        · (repeat (first | refine r_end ?_ | (refine r_op ?_; refine r_pure hT rfl rfl rfl rfl rfl rfl ?_)))
          refine gi_le (p := 0) (q := e) rfl (fun he0 => ?_) (fun he0 => ?_)
          · have hcp : cP np = 1 := if_neg hk1
            (repeat (first | refine r_end ?_ | (refine r_op ?_; refine r_pure hT rfl rfl rfl rfl rfl rfl ?_) | refine gi_seq ?_ | refine gi_plain_ne 19 rfl ?_ | refine gi_inBlock ?_))
            exact fin () _ _ _ trivial ⟨by show some (I _) = some (I (valR m.wl ms np e)); rw [wr_i64 (by omega) (by omega), valR_p hw0 hmb hk1 he0], rfl, rfl, rfl, rfl, rfl, rfl, rfl, rfl, trivial⟩ ⟨rfl, rfl, rfl, rfl, rfl, rfl, rfl, trivial⟩ ⟨rfl, rfl, trivial⟩
          · skip
            (repeat (first | refine gi_seq ?_ | refine gi_skip ?_ | refine gi_inBlock ?_))
            exact fin () _ _ _ trivial ⟨by show some (I _) = some (I (valR m.wl ms np e)); rw [valR_n hw0 hmb he0], rfl, rfl, rfl, rfl, rfl, rfl, rfl, rfl, trivial⟩ ⟨rfl, rfl, rfl, rfl, rfl, rfl, rfl, trivial⟩ ⟨rfl, rfl, trivial⟩
        · rw [notB_eq, hk] at h59
          exact absurd h59 (by decide)
    case after =>
      intro _ _
      generalize hv : valR m.wl ms np e = v at hvb ⊢
      have hskip : (np.p < 0 ∨ (i : Int) ≤ np.p ∨ v < 0) → RInv t m.wl ms i (o.set i v) d := fun h => by
        subst hv; exact hI.skip hnp he h
      (repeat (first | (refine r_op ?_; first | refine r_pure hT rfl rfl rfl rfl rfl rfl ?_ | refine r_load hT rfl rfl rfl rfl rfl rfl rfl rfl rfl ?_) | refine gi_plain ?_))
      refine r_idxS hT rfl rfl rfl rfl rfl rfl rfl rfl rfl rfl rfl rfl rfl (by show (0 : Int) ≤ (i : Int); omega) (by show ((i : Nat) : Int).toNat < (o.map nRow).length; rw [List.length_map]; omega) ?_
      skip
      refine r_storeS (row := nRow o[i]) hT rfl rfl rfl rfl rfl rfl rfl rfl rfl rfl rfl rfl rfl (by show (List.map nRow _)[((i : Nat) : Int).toNat]? = _; rw [Int.toNat_natCast, List.getElem?_map, List.getElem?_eq_getElem hiol]; rfl) ?_
      (repeat (first | refine r_end ?_ | refine gi_seq ?_))
      refine gi_weak (F' := [(12, I v), (13, Bo (eqB np.v.k 1)), (10, I (i : Int)), (11, .box 6 0), (3, .box 0 0), (4, .box 1 0), (5, .box 2 0), (7, .box 3 0), (8, .box 4 0)]) (H' := H7 t m ms np) (S' := [eN (o.set i v), eN d]) ⟨rfl, rfl, rfl, rfl, rfl, rfl, rfl, rfl, rfl, trivial⟩ ⟨rfl, rfl, rfl, rfl, rfl, rfl, rfl, trivial⟩ ⟨?_, rfl, trivial⟩ rfl ?_
      · show eN (o.set i v) = some (⟨_, _, (o.map nRow).set ((i : Nat) : Int).toNat (nRow v), _⟩ : SE)
        rw [Int.toNat_natCast, ← List.map_set]
      (repeat (first | (refine r_op ?_; first | refine r_pure hT rfl rfl rfl rfl rfl rfl ?_ | refine r_load hT rfl rfl rfl rfl rfl rfl rfl rfl rfl ?_) | refine gi_plain ?_))
      refine r_case (d := 72) rfl (fun hp0 => ?_) (fun hp0 => ?_)
      · (repeat (first | refine r_end ?_ | (refine r_op ?_; first | refine r_pure hT rfl rfl rfl rfl rfl rfl ?_ | refine r_off rfl rfl rfl rfl rfl ?_) | refine gi_exit rfl ?_ | (refine gi_cnd ?_; first | refine gi_true rfl ?_ | refine gi_false rfl ?_)))
        refine gi_weak (F' := []) (H' := H6 t m ms) (S' := [eN (o.set i v), eN d]) trivial ⟨rfl, rfl, rfl, rfl, rfl, rfl, trivial⟩ ⟨rfl, rfl, trivial⟩ rfl ?_
        refine gi_endR (l := l) (r := r) (w0 := wv) rfl rfl (by rw [← hrr]; exact hwl1) hf1 rfl rfl ⟨rfl, _, _, rfl, hskip (.inl (by rw [ltB_eq] at hp0; exact of_decide_eq_true hp0))⟩
      rw [ltB_eq] at hp0
      have hp0 := of_decide_eq_false hp0
      (repeat ((refine r_op ?_; first | refine r_pure hT rfl rfl rfl rfl rfl rfl ?_ | refine r_load hT rfl rfl rfl rfl rfl rfl rfl rfl rfl ?_)))
      refine r_case (d := 78) rfl (fun hp1 => ?_) (fun hp1 => ?_)
      · (repeat (first | refine r_end ?_ | (refine r_op ?_; first | refine r_pure hT rfl rfl rfl rfl rfl rfl ?_ | refine r_off rfl rfl rfl rfl rfl ?_) | refine gi_exit rfl ?_ | (refine gi_cnd ?_; first | refine gi_true rfl ?_ | refine gi_false rfl ?_)))
        refine gi_weak (F' := []) (H' := H6 t m ms) (S' := [eN (o.set i v), eN d]) trivial ⟨rfl, rfl, rfl, rfl, rfl, rfl, trivial⟩ ⟨rfl, rfl, trivial⟩ rfl ?_
        refine gi_endR (l := l) (r := r) (w0 := wv) rfl rfl (by rw [← hrr]; exact hwl1) hf1 rfl rfl ⟨rfl, _, _, rfl, hskip (.inr (.inl (by rw [leB_eq] at hp1; exact of_decide_eq_true hp1)))⟩
      rw [leB_eq] at hp1
      have hp1 := of_decide_eq_false hp1
      (repeat (first | refine r_end ?_ | (refine r_op ?_; refine r_pure hT rfl rfl rfl rfl rfl rfl ?_)))
      refine gi_lt rfl (fun hv0 => ?_) (fun hv0 => ?_)
      · (repeat (refine gi_exit rfl ?_))
        refine gi_weak (F' := []) (H' := H6 t m ms) (S' := [eN (o.set i v), eN d]) trivial ⟨rfl, rfl, rfl, rfl, rfl, rfl, trivial⟩ ⟨rfl, rfl, trivial⟩ rfl ?_
        refine gi_endR (l := l) (r := r) (w0 := wv) rfl rfl (by rw [← hrr]; exact hwl1) hf1 rfl rfl ⟨rfl, _, _, rfl, hskip (.inr (.inr hv0))⟩
      obtain ⟨p, hp⟩ : ∃ p : Nat, np.p = p := ⟨np.p.toNat, by omega⟩
      have hpi : p < i := by omega
      obtain ⟨q, hq⟩ : ∃ q, t[p]? = some q := ⟨_, List.getElem?_eq_getElem (by omega)⟩
      obtain ⟨f, hf⟩ : ∃ f, d[p]? = some f := ⟨_, List.getElem?_eq_getElem (by omega)⟩
      have htell : RInv t m.wl ms i (o.set i v) (d.set p (nearI f (v + cK q np))) := by
        subst hv; exact hI.tell hnp he hp hpi hq hf (by omega)
      have hcb := cK_b q np
      apply gi_cut (σ := Unit) (fun _ => [(12, I (v + cK q np)), (10, I (i : Int)), (11, .box 6 0), (3, .box 0 0), (4, .box 1 0), (5, .box 2 0), (7, .box 3 0), (8, .box 4 0)]) (fun _ => H7 t m ms np) (fun _ => [eN (o.set i v), eN d]) (fun _ => True) (fun _ => rfl)
      case first =>
        intro fin
        (repeat (first | (refine r_op ?_; refine r_pure hT rfl rfl rfl rfl rfl rfl ?_) | refine gi_seq ?_ | refine gi_plain ?_ | refine gi_skip ?_))
        refine r_case (d := 83) rfl (fun hk => ?_) (fun hk => ?_)
        · have hk1 : np.v.k = 1 := by rw [eqB_eq] at hk; exact of_decide_eq_true hk
          (repeat ((refine r_op ?_; first | refine r_pure hT rfl rfl rfl rfl rfl rfl ?_ | refine r_load hT rfl rfl rfl rfl rfl rfl rfl rfl rfl ?_)))
          refine r_thaw 84 rfl ?_
          refine r_idx (row := q.row) hT rfl rfl rfl rfl rfl rfl rfl rfl rfl rfl rfl rfl (by show 0 ≤ np.p; omega) (by rw [hp, Int.toNat_natCast]; simp [hq]) ?_
          (repeat (first | refine r_end ?_ | (refine r_op ?_; first | refine r_pure hT rfl rfl rfl rfl rfl rfl ?_ | refine r_load hT rfl rfl rfl rfl rfl rfl rfl rfl rfl ?_)))
          refine gi_eq rfl (fun hq1 => ?_) (fun hq1 => ?_)
          · have hc : cK q np = 1 := if_pos ⟨hk1, hq1⟩
            (repeat (first | refine r_end ?_ | (refine r_op ?_; refine r_pure hT rfl rfl rfl rfl rfl rfl ?_) | refine gi_plain_ne 23 rfl ?_))
            exact fin () _ _ _ trivial ⟨by show some (I _) = some (I (v + cK q np)); rw [hc, wr_i64 (by omega) (by omega)], rfl, rfl, rfl, rfl, rfl, rfl, rfl, trivial⟩ ⟨rfl, rfl, rfl, rfl, rfl, rfl, rfl, trivial⟩ ⟨rfl, rfl, trivial⟩
          · have hc : cK q np = 0 := if_neg (fun h => hq1 h.2)
            (repeat (refine gi_skip ?_))
            exact fin () _ _ _ trivial ⟨by show some (I _) = some (I (v + cK q np)); rw [hc, Int.add_zero], rfl, rfl, rfl, rfl, rfl, rfl, rfl, trivial⟩ ⟨rfl, rfl, rfl, rfl, rfl, rfl, rfl, trivial⟩ ⟨rfl, rfl, trivial⟩
        · have hk1 : np.v.k ≠ 1 := by rw [eqB_eq] at hk; exact of_decide_eq_false hk
          have hc : cK q np = 0 := if_neg (fun h => hk1 h.1)
          (repeat (first | refine r_end ?_ | (refine r_op ?_; first | refine r_pure hT rfl rfl rfl rfl rfl rfl ?_ | refine r_off rfl rfl rfl rfl rfl ?_) | refine gi_skip ?_ | (refine gi_cnd ?_; first | refine gi_true rfl ?_ | refine gi_false rfl ?_)))
          skip
          exact fin () _ _ _ trivial ⟨by show some (I _) = some (I (v + cK q np)); rw [hc, Int.add_zero], rfl, rfl, rfl, rfl, rfl, rfl, rfl, trivial⟩ ⟨rfl, rfl, rfl, rfl, rfl, rfl, rfl, trivial⟩ ⟨rfl, rfl, trivial⟩
      case after =>
        intro _ _
        refine gi_drawM [11] [(1, .p), (4, .p), (8, .p), (0, .t), (2, .t), (3, .t), (5, .t), (6, .p), (7, .t), (9, .o), (10, .p), (11, .l)] [0, 0, 2, 0, 0, 16, 40, 64, 0, 384, 1023, 2047] [0, 0, 2, 0, 0, 16, 40, 64, 0, 384, 5, 1536] Kt.hm rfl (by kernel_rfl) (fun w1 K => ?_)
        (repeat ((refine r_op ?_; first | refine r_pure hT rfl rfl rfl rfl rfl rfl ?_ | refine r_load hT rfl rfl rfl rfl rfl rfl rfl rfl rfl ?_)))
        refine r_idxS hT rfl rfl rfl rfl rfl rfl rfl rfl rfl rfl rfl rfl rfl (by show 0 ≤ np.p; omega) (by show np.p.toNat < (d.map nRow).length; rw [List.length_map]; omega) ?_
        skip
        refine r_loadS (row := nRow f) hT rfl rfl rfl rfl rfl rfl rfl rfl (by show (d.map nRow)[np.p.toNat]? = _; rw [hp, Int.toNat_natCast, List.getElem?_map, hf]; rfl) rfl rfl rfl ?_
        skip
        refine r_call (nearest_ok f (v + cK q np)) rfl rfl rfl rfl rfl rfl rfl rfl Try.func56 rfl rfl rfl pI ?_
        rintro r2 S2 ⟨rfl, rfl⟩
        skip
        refine r_idxS hT rfl rfl rfl rfl rfl rfl rfl rfl rfl rfl rfl rfl rfl (by show 0 ≤ np.p; omega) (by show np.p.toNat < (d.map nRow).length; rw [List.length_map]; omega) ?_
        skip
        refine r_storeS (row := nRow f) hT rfl rfl rfl rfl rfl rfl rfl rfl rfl rfl rfl rfl rfl (by show (d.map nRow)[np.p.toNat]? = _; rw [hp, Int.toNat_natCast, List.getElem?_map, hf]; rfl) ?_
        (repeat (first | refine r_end ?_ | refine gi_inBlock ?_))
        refine gi_weak (F' := []) (H' := H6 t m ms) (S' := [eN (o.set i v), eN (d.set p (nearI f (v + cK q np)))]) trivial ⟨rfl, rfl, rfl, rfl, rfl, rfl, trivial⟩ ⟨rfl, ?_, trivial⟩ rfl ?_
        · show eN (d.set p (nearI f (v + cK q np))) = some (⟨_, _, (d.map nRow).set np.p.toNat (nRow (nearI f (v + cK q np))), _⟩ : SE)
          rw [hp, Int.toNat_natCast, ← List.map_set]
        refine gi_endR (l := l) (r := r) (w0 := wv) rfl rfl (by rw [← hrr]; exact hwl1) hf1 rfl rfl ⟨rfl, _, _, rfl, htell⟩
  · intro w3 X3 D H1 S1 hpost hnb hbh
    obtain ⟨rfl, o1, d1, rfl, hI1⟩ := hpost
    obtain ⟨xX, xZ, xY, xnb, xB, xnv, xV⟩ := X3
    obtain ⟨hnb, hnv⟩ := hnb
    have hnb : xnb = 0 := hnb
    have hnv : xnv = 0 := hnv
    subst hnb
    subst hnv
    (repeat (first | refine r_end ?_ | (refine r_op ?_; first | refine r_pure hT rfl rfl rfl rfl rfl rfl ?_ | refine r_load hT rfl rfl rfl rfl rfl rfl rfl rfl rfl ?_) | refine gi_seq ?_ | refine gi_plain ?_ | refine gi_inBlock ?_))
    refine gi_retM hbh rfl hT rfl rfl [] [0] rfl rfl rfl rfl rfl rfl rfl rfl rfl ?_ rfl rfl
    exact ⟨rfl, rfl, o1, rfl, hI1.rch⟩
end Go.Proofs.Ytmocggibcniggaa.Kt
namespace Go.Proofs.Ytmocggibcniggaa.Kt
open Go Kw Go.Proofs
attribute [local irreducible] Kw.GI Kw.GR Kw.FnR Kw.FnX
set_option maxHeartbeats 8000000
set_option maxRecDepth 100000
/-! ### advertisements that are built: their links are slices of the list's own -/
abbrev Ls.rowO (x : Ls) : List RV := [.v (.int .i64 x.age), .v (.int .i64 x.kind), .v (.int .i64 x.id), .v (.int .i64 x.adv), .v (.int .i64 x.seq), .v (.int .i64 x.sum), .v (.int .i64 x.len), .v (.int .i64 x.fl), .os 54 4 (x.lk.map Lk.row), .v (.int .i64 x.bits), .fs 1 (x.rt.map nRow), .fs 2 (x.vt.map Vt.row)]
abbrev seO (l : List Ls) : SE := ⟨51, 12, l.map Ls.rowO, true⟩
abbrev eO (l : List Ls) : Option SE := some (seO l)
theorem frz_rowO : ∀ (l : List Ls), frzLL (l.map Ls.rowO) = l.map Ls.row
  | [] => by unfold List.map frzLL; rfl
  | x :: l => by
    rw [List.map_cons, List.map_cons]
    unfold frzLL
    rw [frz_rowO l]
    rfl
theorem frz_seO (l : List Ls) : frzE (seO l) = l.map Ls.row := frz_rowO l
/-- With one link more. -/
def Ls.add (x : Ls) (q : Lk) : Ls := { x with lk := x.lk ++ [q] }
theorem rowO_add (x : Ls) (q : Lk) : (x.rowO.set 8 .any).set 8 (.os 54 4 (x.lk.map Lk.row ++ [q.row])) = (x.add q).rowO := by
  show [_, _, _, _, _, _, _, _, _, _, _, _] = _
  unfold Ls.add Ls.rowO
  simp only [List.map_append, List.map_cons, List.map_nil]
theorem eO_link {l : List Ls} {a : Nat} (x : Ls) (q : Lk) (T : Sp) : (some (⟨51, 12, ((l.map Ls.rowO).set a (x.rowO.set 8 .any)).set a ((x.rowO.set 8 .any).set 8 (.os 54 4 (x.lk.map Lk.row ++ [q.row]))), true⟩ : SE) :: T : Sp) = eO (l.set a (x.add q)) :: T := by
  rw [List.set_set, rowO_add, ← List.map_set]
/-! A row that was laid out by a literal. -/
def cellLe (x y : RV) : Prop := ∀ (Y Z : Nat → Prop) (w : World) (u : Value) (f : List Nat), OR Y Z w x u f → OR Y Z w y u f
theorem le_same (x : RV) : cellLe x x := fun _ _ _ _ _ h => h
theorem le_os (e : TypeId) (sz : Nat) : cellLe (.v (.slice none 0 0)) (.os e sz []) := fun Y Z w u f h => by
  have h := (OR_cr (x := .v (.slice none 0 0)) rfl).1 h
  obtain ⟨h1, rfl⟩ := h
  unfold CR at h1
  rw [h1.1]
  exact ⟨[], ⟨by simp, .inl ⟨rfl, rfl⟩⟩, by unfold Kw.Rows; rfl, rfl⟩
theorem le_fs (sz : Nat) : cellLe (.v (.slice none 0 0)) (.fs sz []) := fun Y Z w u f h => by
  have h := (OR_cr (x := .v (.slice none 0 0)) rfl).1 h
  obtain ⟨h1, rfl⟩ := h
  refine (OR_cr rfl).2 ⟨?_, rfl⟩
  unfold CR at h1 ⊢
  exact ⟨none, 0, by simpa using h1.1, Nat.le_refl _, Nat.zero_le _, .inl rfl⟩
def RowLe : List RV → List RV → Prop
  | [], [] => True
  | x :: xs, y :: ys => cellLe x y ∧ RowLe xs ys
  | _, _ => False
theorem RowLe.len : ∀ {xs ys : List RV}, RowLe xs ys → xs.length = ys.length
  | [], [], _ => rfl
  | x :: xs, y :: ys, h => by simp [RowLe.len (xs := xs) (ys := ys) h.2]
  | [], _ :: _, h => h.elim
  | _ :: _, [], h => h.elim
section
variable {Y Z : Nat → Prop} {w : World}
theorem ORL_le : ∀ {xs ys : List RV} {us : List Value} {f : List Nat}, RowLe xs ys → ORL Y Z w xs us f → ORL Y Z w ys us f
  | [], [], us, f, _, h => h
  | x :: xs, y :: ys, us, f, hl, h => by
    unfold ORL at h ⊢
    obtain ⟨u, r, f1, g, h1, h2, h3, h4⟩ := h
    exact ⟨u, r, f1, g, h1, hl.1 _ _ _ _ _ h2, ORL_le (xs := xs) (ys := ys) hl.2 h3, h4⟩
  | [], _ :: _, _, _, h, _ => h.elim
  | _ :: _, [], _, _, h, _ => h.elim
theorem ORows_last {sz : Nat} {r r' : List RV} (hr : RowLe r r') : ∀ {L : List (List RV)} {us : List Value} {f : List Nat}, ORows Y Z w sz (L ++ [r]) us f → ORows Y Z w sz (L ++ [r']) us f
  | [], us, f, h => by
    have h : ORows Y Z w sz [r] us f := h
    show ORows Y Z w sz [r'] us f
    unfold ORows at h ⊢
    obtain ⟨a, b, f1, g, h1, h2, h3, h4, h5⟩ := h
    exact ⟨a, b, f1, g, h1, hr.len.symm.trans h2, ORL_le hr h3, by unfold ORows at h4 ⊢; exact h4, h5⟩
  | c :: L, us, f, h => by
    have h : ORows Y Z w sz (c :: (L ++ [r])) us f := h
    show ORows Y Z w sz (c :: (L ++ [r'])) us f
    unfold ORows at h ⊢
    obtain ⟨a, b, f1, g, h1, h2, h3, h4, h5⟩ := h
    exact ⟨a, b, f1, g, h1, h2, h3, ORows_last hr h4, h5⟩
end
theorem rows_last {e : TypeId} {sz : Nat} {L : List (List RV)} {r r' : List RV} (hr : RowLe r r') : ∀ (Y Z : Nat → Prop) w cs f, RowsE Y Z w ⟨e, sz, L ++ [r], true⟩ cs f → RowsE Y Z w ⟨e, sz, L ++ [r'], true⟩ cs f :=
  fun Y Z w cs f h => by unfold RowsE at h ⊢; exact ORows_last hr h
theorem rows_nest {e : TypeId} {sz : Nat} {L : List (List RV)} : ∀ (Y Z : Nat → Prop) w cs f, RowsE Y Z w ⟨e, sz, L, false⟩ cs f → RowsE Y Z w ⟨e, sz, L, true⟩ cs f :=
  fun Y Z w cs f h => by unfold RowsE at h ⊢; obtain ⟨h1, rfl⟩ := h; exact ORows_of_Rows h1
/-- A row as a literal lays it: no lists, but those of the routers. -/
theorem raw_le {a b c d e f g fl bt : Int} {R : RV} {rt : List Int} (hR : cellLe R (.fs 1 (rt.map nRow))) :
    RowLe [.v (.int .i64 a), .v (.int .i64 b), .v (.int .i64 c), .v (.int .i64 d), .v (.int .i64 e), .v (.int .i64 f), .v (.int .i64 g), .v (.int .i64 fl), .v (.slice none 0 0), .v (.int .i64 bt), R, .v (.slice none 0 0)] (Ls.rowO ⟨a, b, c, d, e, f, g, fl, [], bt, rt, []⟩) :=
  ⟨le_same _, le_same _, le_same _, le_same _, le_same _, le_same _, le_same _, le_same _, le_os _ _, le_same _, hR, le_fs _, trivial⟩
theorem eO_snoc (l : List Ls) (x : Ls) (r : List RV) (h : r = x.rowO) : seO (l ++ [x]) = ⟨51, 12, l.map Ls.rowO ++ [r], true⟩ := by
  rw [h]
  show (⟨_, _, (l ++ [x]).map Ls.rowO, _⟩ : SE) = _
  rw [List.map_append]
  rfl
/-! ### what Graph makes -/
def LkOk (q : Lk) : Prop := 0 ≤ q.c ∧ q.c ≤ 10 ∧ (q.k = 3 → q.d = 4294967040 ∧ 0 ≤ q.i ∧ q.i ≤ 1000000 ∧ q.i % 256 = 0)
/-- So many routers, from 1 on; each has at most N links. -/
structure Gs (k N : Nat) (gs : List Ls) : Prop where
  len : gs.length = k
  el : ∀ (j : Nat) (x : Ls), gs[j]? = some x → x = ⟨0, 1, j + 1, j + 1, 0, 0, 0, 0, x.lk, 0, [], []⟩ ∧ (∀ q ∈ x.lk, LkOk q) ∧ x.lk.length ≤ N
theorem Gs.mono {k N M : Nat} {gs : List Ls} (h : Gs k N gs) (hm : N ≤ M) : Gs k M gs := ⟨h.len, fun j x hx => by
  obtain ⟨h1, h2, h3⟩ := h.el j x hx
  exact ⟨h1, h2, Nat.le_trans h3 hm⟩⟩
theorem Gs.add {k N : Nat} {gs : List Ls} (h : Gs k N gs) {a : Nat} {x : Ls} (hx : gs[a]? = some x) {q : Lk} (hq : LkOk q) : Gs k (N + 1) (gs.set a (x.add q)) := by
  refine ⟨by rw [List.length_set]; exact h.len, fun j y hy => ?_⟩
  rcases get_set hy with ⟨rfl, rfl, _⟩ | ⟨_, hy⟩
  · obtain ⟨h1, h2, h3⟩ := h.el a x hx
    refine ⟨by unfold Ls.add; rw [h1], fun q' hq' => ?_, ?_⟩
    · rcases List.mem_append.1 hq' with hq' | hq'
      · exact h2 q' hq'
      · rw [List.mem_singleton.1 hq']; exact hq
    · show (x.lk ++ [q]).length ≤ _
      rw [List.length_append, List.length_singleton]; omega
  · obtain ⟨h1, h2, h3⟩ := h.el j y hy
    exact ⟨h1, h2, by omega⟩
theorem Gs.snoc {k N : Nat} {gs : List Ls} (h : Gs k N gs) : Gs (k + 1) N (gs ++ [⟨0, 1, k + 1, k + 1, 0, 0, 0, 0, [], 0, [], []⟩]) := by
  refine ⟨by rw [List.length_append, h.len]; rfl, fun j y hy => ?_⟩
  rcases get_snoc hy with hy | ⟨rfl, rfl⟩
  · exact h.el j y hy
  · refine ⟨?_, ?_, Nat.zero_le _⟩
    · show Ls.mk _ _ _ _ _ _ _ _ _ _ _ _ = _
      rw [h.len]
    · intro q hq; cases hq
theorem Gs.nil : Gs 0 0 [] := ⟨rfl, fun j x h => by simp at h⟩
/-- Networks. -/
def NsOk (ns : List Ls) : Prop := ∀ y ∈ ns, y = ⟨0, 2, y.id, y.adv, 0, 0, 0, 0, [], 24, y.rt, []⟩ ∧ y.rt.length ≤ 6 ∧ 0 ≤ y.id ∧ y.id ≤ 1000000 ∧ y.id % 256 = 0
theorem NsOk.nil : NsOk [] := fun y hy => by cases hy
structure GrOk (n : Int) (l : List Ls) : Prop where
  ex : ∃ (k : Nat) (gs ns : List Ls), (k : Int) = 1 + n % 6 ∧ l = gs ++ ns ∧ Gs k 200 gs ∧ NsOk ns ∧ ns.length ≤ 8
theorem GrOk.few {n : Int} {l : List Ls} (h : GrOk n l) : Few l := by
  obtain ⟨k, gs, ns, h1, rfl, h2, h3, h4⟩ := h.ex
  have hk : k ≤ 6 := by omega
  have := h2.len
  refine ⟨by rw [List.length_append]; omega, fun x hx => ?_, fun x hx => ?_⟩
  · rcases List.mem_append.1 hx with hx | hx
    · obtain ⟨j, hj⟩ := List.mem_iff_getElem?.1 hx
      have := (h2.el j x hj).2.2
      omega
    · rw [(h3 x hx).1]; exact Nat.zero_le _
  · rcases List.mem_append.1 hx with hx | hx
    · obtain ⟨j, hj⟩ := List.mem_iff_getElem?.1 hx
      rw [(h2.el j x hj).1]; exact Nat.zero_le _
    · have := (h3 x hx).2.1
      omega
abbrev u8 (n : Int) : AV := .r (.v (.int .u8 n))
abbrev rs8 (l : List Int) : AV := .r (.rs 1 (l.map fun n => [.v (.int .u8 n)]))
abbrev rsB (l : List Bool) : AV := .r (.rs 1 (l.map fun n => [.v (.bool n)]))
abbrev RG (n : Int) : AV → Hp → Sp → Prop := fun r H S => ∃ l, GrOk n l ∧ r = .sl 0 ∧ H = [] ∧ S = [eO l]
theorem stOL_O (x : Ls) : stOL x.rowO = true := by
  show (true && (true && (true && (true && (true && (true && (true && (true && (stLL (x.lk.map Lk.row) && (true && (stLL (x.rt.map nRow) && (stLL (x.vt.map Vt.row) && true)))))))))))) = true
  rw [stLL_K, stLL_N, stLL_V]
  rfl
theorem stOLL_O : ∀ (l : List Ls), stOLL (l.map Ls.rowO) = true
  | [] => rfl
  | x :: l => by
    rw [List.map_cons]
    unfold stOLL
    rw [stOL_O, stOLL_O l]; rfl
theorem pG {n : Int} : ∀ r H1 S1, RG n r H1 S1 → stA r = true ∧ StH H1 ∧ StS S1 := by
  rintro r H S ⟨l, _, rfl, rfl, rfl⟩
  refine ⟨rfl, StH.nil, fun e he s hs => ?_⟩
  rw [List.mem_singleton] at he
  subst he
  cases hs
  exact stOLL_O l
end Go.Proofs.Ytmocggibcniggaa.Kt
namespace Go.Proofs.Ytmocggibcniggaa.Kt
open Go Kw Go.Proofs
attribute [local irreducible] Kw.GI Kw.GR Kw.FnR Kw.FnX
set_option maxHeartbeats 8000000
set_option maxRecDepth 100000
/-! ### addresses -/
def okA (a : Int) : Bool := leB 0 a && leB a 4294967295
theorem Right_ok (a : Int) : FnR Try.prog 77 [I a] (RB (okA a)) := by
  refine fnR_intro (T := TT) (n := 9) Try.func77 rfl rfl rfl (fun w Z => ?_)
  (repeat (first | refine r_end ?_ | (refine r_op ?_; refine r_pure hT rfl rfl rfl rfl rfl rfl ?_) | refine gi_seq ?_ | refine gi_plain ?_))
  refine r_case (d := 5) rfl (fun h => ?_) (fun h => ?_)
  · (repeat (first | refine r_end ?_ | (refine r_op ?_; refine r_pure hT rfl rfl rfl rfl rfl rfl ?_)))
    refine gi_retW hT Try.func77 rfl rfl [] rfl rfl rfl rfl ?_
    exact ⟨by unfold okA; rw [h]; rfl, rfl⟩
  · (repeat (first | refine r_end ?_ | (refine r_op ?_; first | refine r_pure hT rfl rfl rfl rfl rfl rfl ?_ | refine r_off rfl rfl rfl rfl rfl ?_)))
    refine gi_retW hT Try.func77 rfl rfl [] rfl rfl rfl rfl ?_
    exact ⟨by unfold okA; rw [h]; rfl, rfl⟩
theorem pMask_ok (b : Int) : FnR Try.prog 94 [I b] (RI (maskF b)) := by
  obtain ⟨g1, g2⟩ := nM_rng b
  refine fnR_intro (T := TT) (n := 9) Try.func94 rfl rfl rfl (fun w Z => ?_)
  (repeat (first | refine r_end ?_ | (refine r_op ?_; refine r_pure hT rfl rfl rfl rfl rfl rfl ?_) | refine gi_seq ?_ | refine gi_plain ?_))
  refine r_turn (d := 6) (y := I (nM b)) rfl ?_ ?_
  · rw [mm_nM]
    rw [show (32 : Int) - (32 - nM b) = nM b by omega, wr_i64 (by omega) (by omega)]
  refine r_shl rfl rfl rfl rfl rfl rfl rfl rfl g1 rfl ?_
  (repeat (first | refine r_end ?_ | (refine r_op ?_; refine r_pure hT rfl rfl rfl rfl rfl rfl ?_)))
  refine gi_retW hT Try.func94 rfl rfl [] rfl rfl rfl rfl ?_
  refine ⟨?_, rfl⟩
  unfold maskF
  rfl
@[irreducible] def pnetF (a b : Int) : Int := Go.bits .and .i64 a (maskF b)
theorem pNet_ok (a b : Int) : FnR Try.prog 78 [I a, I b] (RI (pnetF a b)) := by
  refine fnR_intro (T := TT) (n := 9) Try.func78 rfl rfl rfl (fun w Z => ?_)
  (repeat (first | refine r_end ?_ | (refine r_op ?_; refine r_pure hT rfl rfl rfl rfl rfl rfl ?_) | refine gi_seq ?_ | refine gi_plain ?_))
  refine r_call (pMask_ok b) rfl rfl rfl rfl rfl rfl rfl rfl Try.func94 rfl rfl rfl pI ?_
  rintro r S1 ⟨rfl, rfl⟩
  (repeat (first | refine r_end ?_ | (refine r_op ?_; refine r_pure hT rfl rfl rfl rfl rfl rfl ?_)))
  refine gi_retW hT Try.func78 rfl rfl [] rfl rfl rfl rfl ?_
  refine ⟨?_, rfl⟩
  unfold pnetF
  rfl
def inP (a p b : Int) : Bool := okA a && (okA p && (leB 0 b && (leB b 32 && eqB (pnetF a b) (pnetF p b))))
theorem In_ok (a p b : Int) : FnR Try.prog 48 [I a, I p, I b] (RB (inP a p b)) := by
  have done : ∀ {x : Bool}, x = inP a p b → Bo x = Bo (inP a p b) := fun h => by rw [h]
  refine fnR_intro (T := TT) (n := 30) Try.func48 rfl rfl rfl (fun w Z => ?_)
  (repeat (first | refine r_end ?_ | (refine r_op ?_; refine r_pure hT rfl rfl rfl rfl rfl rfl ?_) | refine gi_seq ?_ | refine gi_plain ?_))
  refine r_call (Right_ok a) rfl rfl rfl rfl rfl rfl rfl rfl Try.func77 rfl rfl rfl pB ?_
  rintro r S1 ⟨rfl, rfl⟩
  (repeat ((refine r_op ?_; refine r_pure hT rfl rfl rfl rfl rfl rfl ?_)))
  refine r_case (d := 9) rfl (fun h1 => ?_) (fun h1 => ?_)
  · (repeat ((refine r_op ?_; refine r_pure hT rfl rfl rfl rfl rfl rfl ?_)))
    refine r_call (Right_ok p) rfl rfl rfl rfl rfl rfl rfl rfl Try.func77 rfl rfl rfl pB ?_
    rintro r S1 ⟨rfl, rfl⟩
    (repeat ((refine r_op ?_; refine r_pure hT rfl rfl rfl rfl rfl rfl ?_)))
    refine r_case (d := 13) rfl (fun h2 => ?_) (fun h2 => ?_)
    · (repeat ((refine r_op ?_; refine r_pure hT rfl rfl rfl rfl rfl rfl ?_)))
      refine r_case (d := 17) rfl (fun h3 => ?_) (fun h3 => ?_)
      · (repeat ((refine r_op ?_; refine r_pure hT rfl rfl rfl rfl rfl rfl ?_)))
        refine r_case (d := 21) rfl (fun h4 => ?_) (fun h4 => ?_)
        · (repeat ((refine r_op ?_; refine r_pure hT rfl rfl rfl rfl rfl rfl ?_)))
          refine r_call (pNet_ok a b) rfl rfl rfl rfl rfl rfl rfl rfl Try.func78 rfl rfl rfl pI ?_
          rintro r S1 ⟨rfl, rfl⟩
          (repeat ((refine r_op ?_; refine r_pure hT rfl rfl rfl rfl rfl rfl ?_)))
          refine r_call (pNet_ok p b) rfl rfl rfl rfl rfl rfl rfl rfl Try.func78 rfl rfl rfl pI ?_
          rintro r S1 ⟨rfl, rfl⟩
          (repeat (first | refine r_end ?_ | (refine r_op ?_; refine r_pure hT rfl rfl rfl rfl rfl rfl ?_)))
          refine gi_retW hT Try.func48 rfl rfl [] rfl rfl rfl rfl ?_
          exact ⟨by unfold inP; rw [h1, h2, h3, h4]; rfl, rfl⟩
        · (repeat (first | refine r_end ?_ | (refine r_op ?_; first | refine r_pure hT rfl rfl rfl rfl rfl rfl ?_ | refine r_off rfl rfl rfl rfl rfl ?_)))
          refine gi_retW hT Try.func48 rfl rfl [] rfl rfl rfl rfl ?_
          exact ⟨by unfold inP; rw [h1, h2, h3, h4]; rfl, rfl⟩
      · (repeat (first | refine r_end ?_ | (refine r_op ?_; first | refine r_pure hT rfl rfl rfl rfl rfl rfl ?_ | refine r_off rfl rfl rfl rfl rfl ?_)))
        refine gi_retW hT Try.func48 rfl rfl [] rfl rfl rfl rfl ?_
        exact ⟨by unfold inP; rw [h1, h2, h3]; rfl, rfl⟩
    · (repeat (first | refine r_end ?_ | (refine r_op ?_; first | refine r_pure hT rfl rfl rfl rfl rfl rfl ?_ | refine r_off rfl rfl rfl rfl rfl ?_)))
      refine gi_retW hT Try.func48 rfl rfl [] rfl rfl rfl rfl ?_
      exact ⟨by unfold inP; rw [h1, h2]; rfl, rfl⟩
  · (repeat (first | refine r_end ?_ | (refine r_op ?_; first | refine r_pure hT rfl rfl rfl rfl rfl rfl ?_ | refine r_off rfl rfl rfl rfl rfl ?_)))
    refine gi_retW hT Try.func48 rfl rfl [] rfl rfl rfl rfl ?_
    exact ⟨by unfold inP; rw [h1]; rfl, rfl⟩
/-! ### where an address is -/
structure Src where
  v : Vt
  p : Int
  b : Int
  ok : Bool
abbrev Src.av (s : Src) : AV := .tup [s.v.av, I s.p, I s.b, Bo s.ok]
def z0 : Src := ⟨⟨0, 0⟩, 0, 0, false⟩
def sn1 (a : Int) (st : Src) (s : Sn) : Src := if inP a s.p s.b = true ∧ (st.ok = false ∨ st.b < s.b) then ⟨s.v, s.p, s.b, true⟩ else st
def sb1 (a : Int) (st : Src) (s : Sb) : Src := if inP a s.p s.b = true ∧ (st.ok = false ∨ st.b < s.b) then ⟨⟨1, s.r⟩, s.p, s.b, true⟩ else st
def srcF (a : Int) (m : Mp) : Src := m.sb.foldl (sb1 a) (m.sn.foldl (sn1 a) z0)
theorem foldl_tk {α β : Type} {f : β → α → β} {z : β} {l : List α} {i : Nat} {x : α} (hx : l[i]? = some x) : (l.take (i + 1)).foldl f z = f ((l.take i).foldl f z) x := by
  rw [List.take_add_one, hx, List.foldl_append]
  rfl
abbrev rsSn (l : List Sn) : AV := .r (.rs 4 (l.map Sn.row))
abbrev rsSb (l : List Sb) : AV := .r (.rs 4 (l.map Sb.row))
theorem pSource_ok (m : Mp) (a : Int) (h1 : m.sn.length < 1000000) (h2 : m.sb.length < 100000000) : FnR Try.prog 16 [avMf m, I a] (fun r S => r = (srcF a m).av ∧ S = []) := by
  refine fnR_intro (T := TT) (n := 77) Try.func16 rfl rfl rfl (fun w Z => ?_)
  (repeat (first | refine r_end ?_ | (refine r_op ?_; first | refine r_pure hT rfl rfl rfl rfl rfl rfl ?_ | refine r_load hT rfl rfl rfl rfl rfl rfl rfl rfl rfl ?_ | refine r_box rfl rfl rfl rfl rfl rfl rfl rfl rfl ?_ | refine r_alloc hT rfl rfl rfl rfl rfl rfl rfl rfl rfl ?_) | refine gi_seq ?_ | refine gi_plain ?_ | refine gi_block ?_))
  refine gi_thaw 13 rfl ?_
  refine gi_loop (σ := Nat × Src) (fun s => [(15, I (s.1 : Int)), (14, I (m.sn.length : Int)), (13, rsSn m.sn), (2, .box 0 0), (4, .box 1 0), (1, I a), (5, I s.2.p), (6, I s.2.b), (7, Bo s.2.ok)]) (fun s => [hMf m, hV s.2.v]) (fun _ => []) (fun s => s.1 ≤ m.sn.length ∧ s.2 = (m.sn.take s.1).foldl (sn1 a) z0) (fun s => m.sn.length - s.1) (0, z0) ⟨Nat.zero_le _, rfl⟩ ⟨rfl, by show some (I (((m.sn.map Sn.row).length : Nat) : Int)) = _; rw [List.length_map], rfl, rfl, rfl, rfl, rfl, rfl, rfl, trivial⟩ ⟨rfl, rfl, trivial⟩ trivial (fun _ => rfl) (fun s hs next => ?_)
  obtain ⟨i, st⟩ := s
  obtain ⟨hi, hst⟩ := hs
  simp only at hi hst
  (repeat (first | refine r_end ?_ | (refine r_op ?_; refine r_pure hT rfl rfl rfl rfl rfl rfl ?_) | refine gi_seq ?_ | refine gi_plain ?_))
  refine gi_lt (p := (i : Int)) rfl (fun h3 => ?_) (fun h3 => ?_)
  · obtain ⟨x, hx⟩ : ∃ x, m.sn[i]? = some x := ⟨_, List.getElem?_eq_getElem (by omega)⟩
    have go : ∀ st', st' = sn1 a st x → ∀ F1 H1 S1, SubF [(15, I (wr .i64 ((i : Int) + 1))), (14, I (m.sn.length : Int)), (13, rsSn m.sn), (2, .box 0 0), (4, .box 1 0), (1, I a), (5, I st'.p), (6, I st'.b), (7, Bo st'.ok)] F1 → SubH [hMf m, hV st'.v] H1 → SubS [] S1 → GI _ _ F1 H1 S1 := fun st' hst' F1 H1 S1 hF hH hS => by
      refine next (i + 1, st') F1 H1 S1 ⟨by simp only; omega, by simp only; rw [foldl_tk hx, ← hst, hst']⟩ (by simp only; omega) ?_ hH hS
      rw [wr_i64 (by omega) (by omega)] at hF
      simpa using hF
    clear next
    (repeat (first | refine gi_seq ?_ | refine gi_plain ?_ | refine gi_skip ?_ | refine gi_block ?_))
    refine r_idx (row := x.row) hT rfl rfl rfl rfl rfl rfl rfl rfl rfl rfl rfl rfl (by show (0 : Int) ≤ (i : Int); omega) (by simp [hx]) ?_
    (repeat (first | refine r_end ?_ | (refine r_op ?_; first | refine r_pure hT rfl rfl rfl rfl rfl rfl ?_ | refine r_load hT rfl rfl rfl rfl rfl rfl rfl rfl rfl ?_ | refine r_store hT rfl rfl rfl rfl rfl rfl rfl rfl rfl rfl ?_ | refine r_alloc hT rfl rfl rfl rfl rfl rfl rfl rfl rfl ?_) | refine gi_seq ?_ | refine gi_plain ?_))
    refine r_call (In_ok a x.p x.b) rfl rfl rfl rfl rfl rfl rfl rfl Try.func48 rfl rfl rfl pB ?_
    rintro r S1 ⟨rfl, rfl⟩
    (repeat ((refine r_op ?_; refine r_pure hT rfl rfl rfl rfl rfl rfl ?_)))
    refine r_case (d := 25) rfl (fun c1 => ?_) (fun c1 => ?_)
    · (repeat ((refine r_op ?_; refine r_pure hT rfl rfl rfl rfl rfl rfl ?_)))
      refine r_case (d := 28) rfl (fun c2 => ?_) (fun c2 => ?_)
      · rw [notB_eq, Bool.not_eq_true'] at c2
        have hs1 : (⟨x.v, x.p, x.b, true⟩ : Src) = sn1 a st x := (if_pos ⟨c1, .inl c2⟩).symm
        (repeat (first | refine r_end ?_ | (refine r_op ?_; first | refine r_pure hT rfl rfl rfl rfl rfl rfl ?_ | refine r_off rfl rfl rfl rfl rfl ?_) | (refine gi_cnd ?_; first | refine gi_true rfl ?_ | refine gi_false rfl ?_)))
        refine gi_pick [0, 2, 1] [] rfl rfl rfl rfl rfl ?_
        refine gi_drawT 2 true 10 [] [(0, .p), (2, .p), (4, .p), (1, .t), (3, .t), (5, .t), (6, .o), (7, .p), (8, .p), (9, .p)] .it hm rfl (by kernel_rfl) (fun w1 K => ?_)
        (repeat (first | refine r_end ?_ | (refine r_op ?_; first | refine r_pure hT rfl rfl rfl rfl rfl rfl ?_ | refine r_load hT rfl rfl rfl rfl rfl rfl rfl rfl rfl ?_ | refine r_storeO hT rfl rfl rfl rfl rfl rfl rfl rfl rfl rfl rfl ?_) | refine gi_plain ?_ | refine gi_inBlock ?_))
        refine gi_pick [0, 2] [] rfl rfl rfl rfl rfl ?_
        skip
        exact go _ hs1 _ _ _ ⟨rfl, rfl, rfl, rfl, rfl, rfl, rfl, rfl, rfl, trivial⟩ ⟨rfl, rfl, trivial⟩ trivial
      · rw [notB_eq, Bool.not_eq_false'] at c2
        (repeat (first | refine r_end ?_ | (refine r_op ?_; first | refine r_pure hT rfl rfl rfl rfl rfl rfl ?_ | refine r_load hT rfl rfl rfl rfl rfl rfl rfl rfl rfl ?_)))
        refine gi_lt rfl (fun c3 => ?_) (fun c3 => ?_)
        · have hs1 : (⟨x.v, x.p, x.b, true⟩ : Src) = sn1 a st x := (if_pos ⟨c1, .inr c3⟩).symm
          skip
          refine gi_pick [0, 2, 1] [] rfl rfl rfl rfl rfl ?_
          refine gi_drawT 2 true 10 [] [(0, .p), (2, .p), (4, .p), (1, .t), (3, .t), (5, .t), (6, .o), (7, .p), (8, .p), (9, .p)] .it hm rfl (by kernel_rfl) (fun w1 K => ?_)
          (repeat (first | refine r_end ?_ | (refine r_op ?_; first | refine r_pure hT rfl rfl rfl rfl rfl rfl ?_ | refine r_load hT rfl rfl rfl rfl rfl rfl rfl rfl rfl ?_ | refine r_storeO hT rfl rfl rfl rfl rfl rfl rfl rfl rfl rfl rfl ?_) | refine gi_plain ?_ | refine gi_inBlock ?_))
          refine gi_pick [0, 2] [] rfl rfl rfl rfl rfl ?_
          skip
          exact go _ hs1 _ _ _ ⟨rfl, rfl, rfl, rfl, rfl, rfl, rfl, rfl, rfl, trivial⟩ ⟨rfl, rfl, trivial⟩ trivial
        · have hs1 : st = sn1 a st x := (if_neg (fun h => h.2.elim (fun h => by rw [c2] at h; cases h) c3)).symm
          (repeat (first | refine r_end ?_ | (refine r_op ?_; refine r_pure hT rfl rfl rfl rfl rfl rfl ?_) | refine gi_plain ?_ | refine gi_skip ?_ | refine gi_inBlock ?_))
          exact go _ hs1 _ _ _ ⟨rfl, rfl, rfl, rfl, rfl, rfl, rfl, rfl, rfl, trivial⟩ ⟨rfl, rfl, trivial⟩ trivial
    · have hs1 : st = sn1 a st x := (if_neg (fun h => by rw [c1] at h; cases h.1)).symm
      (repeat (first | refine r_end ?_ | (refine r_op ?_; first | refine r_pure hT rfl rfl rfl rfl rfl rfl ?_ | refine r_off rfl rfl rfl rfl rfl ?_) | refine gi_plain ?_ | refine gi_skip ?_ | refine gi_inBlock ?_ | (refine gi_cnd ?_; first | refine gi_true rfl ?_ | refine gi_false rfl ?_)))
      exact go _ hs1 _ _ _ ⟨rfl, rfl, rfl, rfl, rfl, rfl, rfl, rfl, rfl, trivial⟩ ⟨rfl, rfl, trivial⟩ trivial
  · have hil : i = m.sn.length := by omega
    subst hil
    rw [List.take_length] at hst
    (repeat (first | refine r_end ?_ | (refine r_op ?_; first | refine r_pure hT rfl rfl rfl rfl rfl rfl ?_ | refine r_load hT rfl rfl rfl rfl rfl rfl rfl rfl rfl ?_) | refine gi_seq ?_ | refine gi_plain ?_ | refine gi_block ?_ | refine gi_exit rfl ?_))
    refine gi_thaw 43 rfl ?_
    refine gi_loop (σ := Nat × Src) (fun s => [(45, I (s.1 : Int)), (44, I (m.sb.length : Int)), (43, rsSb m.sb), (2, .box 0 0), (4, .box 1 0), (1, I a), (5, I s.2.p), (6, I s.2.b), (7, Bo s.2.ok)]) (fun s => [hMf m, hV s.2.v]) (fun _ => []) (fun s => s.1 ≤ m.sb.length ∧ s.2 = (m.sb.take s.1).foldl (sb1 a) st) (fun s => m.sb.length - s.1) (0, st) ⟨Nat.zero_le _, rfl⟩ ⟨rfl, by show some (I (((m.sb.map Sb.row).length : Nat) : Int)) = _; rw [List.length_map], rfl, rfl, rfl, rfl, rfl, rfl, rfl, trivial⟩ ⟨rfl, rfl, trivial⟩ trivial (fun _ => rfl) (fun s hs next => ?_)
    obtain ⟨i, su⟩ := s
    obtain ⟨hi, hsu⟩ := hs
    simp only at hi hsu
    (repeat (first | refine r_end ?_ | (refine r_op ?_; refine r_pure hT rfl rfl rfl rfl rfl rfl ?_) | refine gi_seq ?_ | refine gi_plain ?_))
    refine gi_lt (p := (i : Int)) rfl (fun h3 => ?_) (fun h3 => ?_)
    · obtain ⟨x, hx⟩ : ∃ x, m.sb[i]? = some x := ⟨_, List.getElem?_eq_getElem (by omega)⟩
      have go : ∀ st', st' = sb1 a su x → ∀ F1 H1 S1, SubF [(45, I (wr .i64 ((i : Int) + 1))), (44, I (m.sb.length : Int)), (43, rsSb m.sb), (2, .box 0 0), (4, .box 1 0), (1, I a), (5, I st'.p), (6, I st'.b), (7, Bo st'.ok)] F1 → SubH [hMf m, hV st'.v] H1 → SubS [] S1 → GI _ _ F1 H1 S1 := fun st' hst' F1 H1 S1 hF hH hS => by
        refine next (i + 1, st') F1 H1 S1 ⟨by simp only; omega, by simp only; rw [foldl_tk hx, ← hsu, hst']⟩ (by simp only; omega) ?_ hH hS
        rw [wr_i64 (by omega) (by omega)] at hF
        simpa using hF
      clear next
      (repeat (first | refine gi_seq ?_ | refine gi_plain ?_ | refine gi_skip ?_ | refine gi_block ?_))
      refine r_idx (row := x.row) hT rfl rfl rfl rfl rfl rfl rfl rfl rfl rfl rfl rfl (by show (0 : Int) ≤ (i : Int); omega) (by simp [hx]) ?_
      (repeat (first | refine r_end ?_ | (refine r_op ?_; first | refine r_pure hT rfl rfl rfl rfl rfl rfl ?_ | refine r_load hT rfl rfl rfl rfl rfl rfl rfl rfl rfl ?_ | refine r_store hT rfl rfl rfl rfl rfl rfl rfl rfl rfl rfl ?_ | refine r_alloc hT rfl rfl rfl rfl rfl rfl rfl rfl rfl ?_) | refine gi_seq ?_ | refine gi_plain ?_))
      refine r_call (In_ok a x.p x.b) rfl rfl rfl rfl rfl rfl rfl rfl Try.func48 rfl rfl rfl pB ?_
      rintro r S1 ⟨rfl, rfl⟩
      (repeat ((refine r_op ?_; refine r_pure hT rfl rfl rfl rfl rfl rfl ?_)))
      refine r_case (d := 55) rfl (fun c1 => ?_) (fun c1 => ?_)
      · (repeat ((refine r_op ?_; refine r_pure hT rfl rfl rfl rfl rfl rfl ?_)))
        refine r_case (d := 58) rfl (fun c2 => ?_) (fun c2 => ?_)
        · rw [notB_eq, Bool.not_eq_true'] at c2
          have hs1 : (⟨⟨1, x.r⟩, x.p, x.b, true⟩ : Src) = sb1 a su x := (if_pos ⟨c1, .inl c2⟩).symm
          (repeat (first | refine r_end ?_ | (refine r_op ?_; first | refine r_pure hT rfl rfl rfl rfl rfl rfl ?_ | refine r_off rfl rfl rfl rfl rfl ?_) | (refine gi_cnd ?_; first | refine gi_true rfl ?_ | refine gi_false rfl ?_)))
          refine gi_pick [0, 2, 1] [] rfl rfl rfl rfl rfl ?_
          refine gi_drawT 2 true 11 [] [(0, .p), (3, .p), (5, .p), (1, .t), (2, .p), (4, .t), (6, .t), (7, .o), (8, .p), (9, .p), (10, .p)] .it hm rfl (by kernel_rfl) (fun w1 K => ?_)
          (repeat (first | refine r_end ?_ | (refine r_op ?_; first | refine r_pure hT rfl rfl rfl rfl rfl rfl ?_ | refine r_load hT rfl rfl rfl rfl rfl rfl rfl rfl rfl ?_ | refine r_storeO hT rfl rfl rfl rfl rfl rfl rfl rfl rfl rfl rfl ?_) | refine gi_plain ?_ | refine gi_inBlock ?_))
          refine gi_pick [0, 2] [] rfl rfl rfl rfl rfl ?_
          skip
          exact go _ hs1 _ _ _ ⟨rfl, rfl, rfl, rfl, rfl, rfl, rfl, rfl, rfl, trivial⟩ ⟨rfl, rfl, trivial⟩ trivial
        · rw [notB_eq, Bool.not_eq_false'] at c2
          (repeat (first | refine r_end ?_ | (refine r_op ?_; first | refine r_pure hT rfl rfl rfl rfl rfl rfl ?_ | refine r_load hT rfl rfl rfl rfl rfl rfl rfl rfl rfl ?_)))
          refine gi_lt rfl (fun c3 => ?_) (fun c3 => ?_)
          · have hs1 : (⟨⟨1, x.r⟩, x.p, x.b, true⟩ : Src) = sb1 a su x := (if_pos ⟨c1, .inr c3⟩).symm
            skip
            refine gi_pick [0, 2, 1] [] rfl rfl rfl rfl rfl ?_
            refine gi_drawT 2 true 11 [] [(0, .p), (3, .p), (5, .p), (1, .t), (2, .p), (4, .t), (6, .t), (7, .o), (8, .p), (9, .p), (10, .p)] .it hm rfl (by kernel_rfl) (fun w1 K => ?_)
            (repeat (first | refine r_end ?_ | (refine r_op ?_; first | refine r_pure hT rfl rfl rfl rfl rfl rfl ?_ | refine r_load hT rfl rfl rfl rfl rfl rfl rfl rfl rfl ?_ | refine r_storeO hT rfl rfl rfl rfl rfl rfl rfl rfl rfl rfl rfl ?_) | refine gi_plain ?_ | refine gi_inBlock ?_))
            refine gi_pick [0, 2] [] rfl rfl rfl rfl rfl ?_
            skip
            exact go _ hs1 _ _ _ ⟨rfl, rfl, rfl, rfl, rfl, rfl, rfl, rfl, rfl, trivial⟩ ⟨rfl, rfl, trivial⟩ trivial
          · have hs1 : su = sb1 a su x := (if_neg (fun h => h.2.elim (fun h => by rw [c2] at h; cases h) c3)).symm
            (repeat (first | refine r_end ?_ | (refine r_op ?_; refine r_pure hT rfl rfl rfl rfl rfl rfl ?_) | refine gi_plain ?_ | refine gi_skip ?_ | refine gi_inBlock ?_))
            exact go _ hs1 _ _ _ ⟨rfl, rfl, rfl, rfl, rfl, rfl, rfl, rfl, rfl, trivial⟩ ⟨rfl, rfl, trivial⟩ trivial
      · have hs1 : su = sb1 a su x := (if_neg (fun h => by rw [c1] at h; cases h.1)).symm
        (repeat (first | refine r_end ?_ | (refine r_op ?_; first | refine r_pure hT rfl rfl rfl rfl rfl rfl ?_ | refine r_off rfl rfl rfl rfl rfl ?_) | refine gi_plain ?_ | refine gi_skip ?_ | refine gi_inBlock ?_ | (refine gi_cnd ?_; first | refine gi_true rfl ?_ | refine gi_false rfl ?_)))
        exact go _ hs1 _ _ _ ⟨rfl, rfl, rfl, rfl, rfl, rfl, rfl, rfl, rfl, trivial⟩ ⟨rfl, rfl, trivial⟩ trivial
    · have hil : i = m.sb.length := by omega
      subst hil
      rw [List.take_length] at hsu
      have hfin : su = srcF a m := by unfold srcF; rw [hsu, hst]
      (repeat (first | refine r_end ?_ | (refine r_op ?_; first | refine r_pure hT rfl rfl rfl rfl rfl rfl ?_ | refine r_load hT rfl rfl rfl rfl rfl rfl rfl rfl rfl ?_ | refine r_store hT rfl rfl rfl rfl rfl rfl rfl rfl rfl rfl ?_) | refine gi_seq ?_ | refine gi_plain ?_ | refine gi_exit rfl ?_))
      refine gi_retW hT Try.func16 rfl rfl [] rfl rfl rfl rfl ?_
      exact ⟨by rw [← hfin], rfl⟩
end Go.Proofs.Ytmocggibcniggaa.Kt
namespace Go.Proofs.Ytmocggibcniggaa.Kt
open Go Kw Go.Proofs
attribute [local irreducible] Kw.GI Kw.GR Kw.FnR Kw.FnX Kw.FnI
set_option maxHeartbeats 8000000
set_option maxRecDepth 100000
/-! ### interfaces as their router sees them -/
structure Nr where
  id : Int
  ad : Int
  pr : Int
  dr : Int
  bd : Int
  tw : Bool
  lf : Int
abbrev Nr.row (x : Nr) : List RV := [.v (.int .i64 x.id), .v (.int .i64 x.ad), .v (.int .i64 x.pr), .v (.int .i64 x.dr), .v (.int .i64 x.bd), .v (.bool x.tw), .v (.int .i64 x.lf)]
abbrev Nr.av (x : Nr) : AV := .agg [I x.id, I x.ad, I x.pr, I x.dr, I x.bd, Bo x.tw, I x.lf]
structure Pt where
  k : Int
  a : Int
  b : Int
  c : Int
  p : Int
  s : Int
  w : Int
  dr : Int
  bd : Int
  fu : List Nr
  gs : List Int
abbrev Pt.row (x : Pt) : List RV := [.v (.int .i64 x.k), .v (.int .i64 x.a), .v (.int .i64 x.b), .v (.int .i64 x.c), .v (.int .i64 x.p), .v (.int .i64 x.s), .v (.int .i64 x.w), .v (.int .i64 x.dr), .v (.int .i64 x.bd), .fs 7 (x.fu.map Nr.row), .fs 1 (x.gs.map nRow)]
abbrev Pt.cells (x : Pt) : List AV := [I x.k, I x.a, I x.b, I x.c, I x.p, I x.s, I x.w, I x.dr, I x.bd, .r (.fs 7 (x.fu.map Nr.row)), .r (.fs 1 (x.gs.map nRow))]
abbrev Pt.av (x : Pt) : AV := .agg x.cells
abbrev hPt (x : Pt) : Option (TypeId × List AV) := some (126, x.cells)
abbrev fsPt (l : List Pt) : AV := .r (.fs 11 (l.map Pt.row))
abbrev rsPt (l : List Pt) : AV := .r (.rs 11 (l.map Pt.row))
abbrev rsNr (l : List Nr) : AV := .r (.rs 7 (l.map Nr.row))
/-- Whose lists are short. -/
def PtOk (x : Pt) : Prop := x.fu.length < 1000000 ∧ x.gs.length < 1000000
theorem stLL_Nr : ∀ (l : List Nr), stLL (l.map Nr.row) = true
  | [] => rfl
  | c :: l => by
    show (stL (Nr.row c) && stLL (l.map Nr.row)) = true
    rw [stLL_Nr l]; rfl
def hasA (l : List Nr) (a : Int) : Bool := l.any (fun n => eqB n.ad a)
/-- Is its net a vertex? -/
def trF (x : Pt) : Bool := match eqB x.k 1 with
  | true => false
  | false => (match eqB x.s 5 with
    | true => ltB 0 (x.fu.length : Int)
    | false => (match eqB x.s 3 || eqB x.s 4 with
      | true => hasA x.fu x.dr
      | false => false))
abbrev R1p (a : AV) (x : Pt) : AV → Hp → Sp → Prop := fun r H S => r = a ∧ H = [hPt x] ∧ S = []
theorem p1p {a : AV} {x : Pt} (ha : stA a = true) : ∀ r H1 S1, R1p a x r H1 S1 → stA r = true ∧ StH H1 ∧ StS S1 := by
  rintro r H S ⟨rfl, rfl, rfl⟩
  refine ⟨ha, fun e he ty cs h => ?_, stS_nil⟩
  rw [List.mem_singleton] at he
  subst he
  cases h
  show (true && (true && (true && (true && (true && (true && (true && (true && (true && (stLL (x.fu.map Nr.row) && (stLL (x.gs.map nRow) && true))))))))))) = true
  rw [stLL_Nr, stLL_N]; rfl
theorem Tr1_ok (n : Nr) (x : Pt) : FnX Try.prog 90 [n.av, .box 0 0] [hPt x] [] (R1p (Bo (eqB n.ad x.dr)) x) := by
  refine fnX_intro (T := TT) (n := 10) Try.func90 rfl rfl rfl (fun w X Z Y B => ?_)
  (repeat (first | refine r_end ?_ | (refine r_op ?_; first | refine r_pure hT rfl rfl rfl rfl rfl rfl ?_ | refine r_load hT rfl rfl rfl rfl rfl rfl rfl rfl rfl ?_ | refine r_box rfl rfl rfl rfl rfl rfl rfl rfl rfl ?_) | refine gi_seq ?_ | refine gi_plain ?_))
  refine gi_retX hT Try.func90 rfl [0] [] rfl rfl rfl rfl rfl rfl rfl rfl ?_
  exact ⟨rfl, rfl, rfl⟩
def ixA (l : List Nr) (a : Int) : Int := match l.findIdx? (fun n => eqB n.ad a) with
  | some i => (i : Int)
  | none => -1
theorem ixA_at {l : List Nr} {a : Int} {j : Nat} {n : Nr} (hn : ∀ i, i < j → ∀ m, l[i]? = some m → eqB m.ad a = false) (hj : l[j]? = some n) (h : eqB n.ad a = true) : ixA l a = j := by
  have : l.findIdx? (fun n => eqB n.ad a) = some j := by
    rw [List.findIdx?_eq_some_iff_getElem]
    obtain ⟨hl, he⟩ := List.getElem?_eq_some_iff.1 hj
    refine ⟨hl, by rw [he]; exact h, fun i hi => ?_⟩
    rw [hn i hi _ (List.getElem?_eq_getElem (by omega))]
    decide
  unfold ixA
  rw [this]
theorem ixA_no {l : List Nr} {a : Int} (hn : ∀ (i : Nat) (m : Nr), l[i]? = some m → eqB m.ad a = false) : ixA l a = -1 := by
  have : l.findIdx? (fun n => eqB n.ad a) = none := by
    rw [List.findIdx?_eq_none_iff]
    intro x hx
    obtain ⟨i, hi⟩ := List.mem_iff_getElem?.1 hx
    exact hn i x hi
  unfold ixA
  rw [this]
theorem ixA_has (l : List Nr) (a : Int) : leB 0 (ixA l a) = hasA l a := by
  unfold ixA hasA
  cases h : l.findIdx? (fun n => eqB n.ad a) with
  | none =>
    rw [List.findIdx?_eq_none_iff] at h
    rw [leB_eq]
    show decide ((0 : Int) ≤ -1) = _
    rw [show l.any (fun n => eqB n.ad a) = false from by rw [List.any_eq_false]; intro x hx; rw [h x hx]; decide]
    rfl
  | some i =>
    rw [List.findIdx?_eq_some_iff_getElem] at h
    obtain ⟨h1, h2, _⟩ := h
    rw [show l.any (fun n => eqB n.ad a) = true from List.any_eq_true.2 ⟨_, List.getElem_mem h1, h2⟩, leB_eq]
    exact decide_eq_true (by show (0 : Int) ≤ (i : Int); omega)
theorem IndexNr_ok (x : Pt) (hl : x.fu.length < 1000000) : FnX Try.prog 99 [rsNr x.fu, .fn 90 [.box 0 0]] [hPt x] [] (R1p (I (ixA x.fu x.dr)) x) := by
  have key : ∀ (l : List Nr), l.length < 1000000 → FnX Try.prog 99 [rsNr l, .fn 90 [.box 0 0]] [hPt x] [] (R1p (I (ixA l x.dr)) x) := by
    intro l hl
    refine fnX_intro (T := TT) (n := 19) Try.func99 rfl rfl rfl (fun w X Z Y B => ?_)
    (repeat (first | refine r_end ?_ | (refine r_op ?_; refine r_pure hT rfl rfl rfl rfl rfl rfl ?_) | refine gi_seq ?_ | refine gi_plain ?_ | refine gi_block ?_))
    refine gi_loop (σ := Nat) (fun s => [(8, I s), (7, I l.length), (1, .fn 90 [.box 0 0]), (0, rsNr l), (4, I 0)]) (fun _ => [hPt x]) (fun _ => []) (fun s => s ≤ l.length ∧ ∀ i, i < s → ∀ m, l[i]? = some m → eqB m.ad x.dr = false) (fun s => l.length - s) 0 ⟨Nat.zero_le _, fun i h => absurd h (Nat.not_lt_zero _)⟩ ⟨rfl, by show some (I ((l.map Nr.row).length : Nat)) = _; rw [List.length_map], rfl, rfl, rfl, trivial⟩ ⟨rfl, trivial⟩ trivial (fun _ => rfl) (fun j hj next => ?_)
    obtain ⟨hj, hn⟩ := hj
    (repeat (first | refine r_end ?_ | (refine r_op ?_; refine r_pure hT rfl rfl rfl rfl rfl rfl ?_) | refine gi_seq ?_ | refine gi_plain ?_))
    refine gi_lt rfl (fun h3 => ?_) (fun h3 => ?_)
    · have hjl : j < l.length := by omega
      obtain ⟨y, hy⟩ : ∃ y, l[j]? = some y := ⟨_, List.getElem?_eq_getElem hjl⟩
      (repeat (first | refine r_end ?_ | (refine r_op ?_; refine r_pure hT rfl rfl rfl rfl rfl rfl ?_) | refine gi_seq ?_ | refine gi_plain ?_ | refine gi_skip ?_ | refine gi_block ?_))
      refine r_idx (row := y.row) hT rfl rfl rfl rfl rfl rfl rfl rfl rfl rfl rfl rfl (by (try simp only); omega) (by simp [hy]) ?_
      (repeat ((refine r_op ?_; refine r_load hT rfl rfl rfl rfl rfl rfl rfl rfl rfl ?_)))
      refine r_callX [0] [] (Tr1_ok y x) rfl rfl rfl rfl rfl rfl Try.func90 rfl rfl rfl rfl rfl rfl rfl (p1p rfl) ?_
      rintro r H1 S1 ⟨rfl, rfl, rfl⟩
      (repeat (refine r_end ?_))
      refine gi_cond rfl (fun h4 => ?_) (fun h4 => ?_)
      · (repeat (first | refine r_end ?_ | (refine r_op ?_; refine r_pure hT rfl rfl rfl rfl rfl rfl ?_) | refine gi_seq ?_ | refine gi_plain ?_))
        refine gi_retX hT Try.func99 rfl [0] [] rfl rfl rfl rfl rfl rfl rfl rfl ?_
        exact ⟨by rw [ixA_at hn hy h4], rfl, rfl⟩
      · (repeat (first | refine r_end ?_ | (refine r_op ?_; refine r_pure hT rfl rfl rfl rfl rfl rfl ?_) | refine gi_plain ?_ | refine gi_skip ?_ | refine gi_inBlock ?_))
        refine next (j + 1) _ _ _ ⟨hjl, fun i hi m hm => ?_⟩ (by omega) ⟨?_, rfl, rfl, rfl, rfl, trivial⟩ ⟨rfl, trivial⟩ trivial
        · rcases Nat.lt_succ_iff_lt_or_eq.1 hi with hi | rfl
          · exact hn i hi m hm
          · rw [hy] at hm; cases hm; exact h4
        · show some (I (wr .i64 ((j : Int) + 1))) = _
          rw [wr_i64 (by omega) (by omega)]
          simp
    · (repeat (first | refine r_end ?_ | (refine r_op ?_; refine r_pure hT rfl rfl rfl rfl rfl rfl ?_) | refine gi_seq ?_ | refine gi_plain ?_ | refine gi_exit rfl ?_))
      refine gi_retX hT Try.func99 rfl [0] [] rfl rfl rfl rfl rfl rfl rfl rfl ?_
      exact ⟨by rw [ixA_no (fun i m hm => hn i (by have := (List.getElem?_eq_some_iff.1 hm).1; omega) m hm)], rfl, rfl⟩
  exact key x.fu hl
theorem ContainsNr_ok (x : Pt) (hl : x.fu.length < 1000000) : FnX Try.prog 89 [rsNr x.fu, .fn 90 [.box 0 0]] [hPt x] [] (R1p (Bo (hasA x.fu x.dr)) x) := by
  refine fnX_intro (T := TT) (n := 9) Try.func89 rfl rfl rfl (fun w X Z Y B => ?_)
  (repeat (first | refine r_end ?_ | (refine r_op ?_; refine r_pure hT rfl rfl rfl rfl rfl rfl ?_) | refine gi_seq ?_ | refine gi_plain ?_))
  refine r_callX [0] [] (IndexNr_ok x hl) rfl rfl rfl rfl rfl rfl Try.func99 rfl rfl rfl rfl rfl rfl rfl (p1p rfl) ?_
  rintro r H1 S1 ⟨rfl, rfl, rfl⟩
  (repeat (first | refine r_end ?_ | (refine r_op ?_; refine r_pure hT rfl rfl rfl rfl rfl rfl ?_)))
  refine gi_retX hT Try.func89 rfl [0] [] rfl rfl rfl rfl rfl rfl rfl rfl ?_
  exact ⟨by rw [ixA_has], rfl, rfl⟩
theorem Transit_ok (x : Pt) (hx : PtOk x) : FnX Try.prog 72 [x.av] [] [] (fun r H S => r = Bo (trF x) ∧ H = [] ∧ S = []) := by
  have ht : trF x = trF x := rfl
  conv at ht => rhs; unfold trF
  refine fnX_intro (T := TT) (n := 24) Try.func72 rfl rfl rfl (fun w X Z Y B => ?_)
  (repeat (first | refine r_end ?_ | (refine r_op ?_; first | refine r_pure hT rfl rfl rfl rfl rfl rfl ?_ | refine r_load hT rfl rfl rfl rfl rfl rfl rfl rfl rfl ?_ | refine r_box rfl rfl rfl rfl rfl rfl rfl rfl rfl ?_) | refine gi_seq ?_ | refine gi_plain ?_))
  refine gi_cond rfl (fun c1 => ?_) (fun c1 => ?_)
  · rw [c1] at ht
    (repeat (first | refine r_end ?_ | (refine r_op ?_; refine r_pure hT rfl rfl rfl rfl rfl rfl ?_) | refine gi_seq ?_ | refine gi_plain ?_))
    refine gi_retX hT Try.func72 rfl [] [] rfl rfl rfl rfl rfl rfl rfl rfl ?_
    exact ⟨by rw [ht], rfl, rfl⟩
  rw [c1] at ht
  (repeat (first | refine r_end ?_ | (refine r_op ?_; first | refine r_pure hT rfl rfl rfl rfl rfl rfl ?_ | refine r_load hT rfl rfl rfl rfl rfl rfl rfl rfl rfl ?_) | refine gi_seq ?_ | refine gi_plain ?_ | refine gi_skip ?_ | refine gi_block ?_))
  refine gi_cond rfl (fun c2 => ?_) (fun c2 => ?_)
  · rw [c2] at ht
    (repeat (first | refine r_end ?_ | (refine r_op ?_; first | refine r_pure hT rfl rfl rfl rfl rfl rfl ?_ | refine r_load hT rfl rfl rfl rfl rfl rfl rfl rfl rfl ?_) | refine gi_seq ?_ | refine gi_plain ?_ | refine gi_exit rfl ?_))
    refine gi_retX hT Try.func72 rfl [] [] rfl rfl rfl rfl rfl rfl rfl rfl ?_
    refine ⟨?_, rfl, rfl⟩
    rw [ht]
    show Bo (ltB 0 ((x.fu.map Nr.row).length : Int)) = _
    rw [List.length_map]
  rw [c2] at ht
  (repeat (first | refine r_end ?_ | (refine r_op ?_; refine r_pure hT rfl rfl rfl rfl rfl rfl ?_) | refine gi_seq ?_ | refine gi_plain ?_ | refine gi_skip ?_))
  refine gi_cond rfl (fun c3 => ?_) (fun c3 => ?_)
  · rw [c3] at ht
    (repeat (first | (refine r_op ?_; first | refine r_pure hT rfl rfl rfl rfl rfl rfl ?_ | refine r_load hT rfl rfl rfl rfl rfl rfl rfl rfl rfl ?_) | refine gi_seq ?_ | refine gi_plain ?_ | refine gi_inBlock ?_ | refine gi_exit rfl ?_))
    refine r_thaw 21 rfl ?_
    refine r_callX [0] [] (ContainsNr_ok x hx.1) rfl rfl rfl rfl rfl rfl Try.func89 rfl rfl rfl rfl rfl rfl rfl (p1p rfl) ?_
    rintro r H1 S1 ⟨rfl, rfl, rfl⟩
    (repeat (first | refine r_end ?_ | (refine r_op ?_; refine r_pure hT rfl rfl rfl rfl rfl rfl ?_)))
    refine gi_retX hT Try.func72 rfl [] [] rfl rfl rfl rfl rfl rfl rfl rfl ?_
    exact ⟨by rw [ht]; rfl, rfl, rfl⟩
  rw [c3] at ht
  (repeat (first | refine r_end ?_ | (refine r_op ?_; refine r_pure hT rfl rfl rfl rfl rfl rfl ?_) | refine gi_seq ?_ | refine gi_plain ?_ | refine gi_skip ?_))
  refine gi_cond rfl (fun c4 => ?_) (fun c4 => ?_)
  · rw [c4] at ht
    (repeat (first | (refine r_op ?_; first | refine r_pure hT rfl rfl rfl rfl rfl rfl ?_ | refine r_load hT rfl rfl rfl rfl rfl rfl rfl rfl rfl ?_) | refine gi_seq ?_ | refine gi_plain ?_ | refine gi_exit rfl ?_))
    refine r_thaw 21 rfl ?_
    refine r_callX [0] [] (ContainsNr_ok x hx.1) rfl rfl rfl rfl rfl rfl Try.func89 rfl rfl rfl rfl rfl rfl rfl (p1p rfl) ?_
    rintro r H1 S1 ⟨rfl, rfl, rfl⟩
    (repeat (first | refine r_end ?_ | (refine r_op ?_; refine r_pure hT rfl rfl rfl rfl rfl rfl ?_)))
    refine gi_retX hT Try.func72 rfl [] [] rfl rfl rfl rfl rfl rfl rfl rfl ?_
    exact ⟨by rw [ht]; rfl, rfl, rfl⟩
  rw [c4] at ht
  (repeat (first | refine r_end ?_ | (refine r_op ?_; refine r_pure hT rfl rfl rfl rfl rfl rfl ?_) | refine gi_seq ?_ | refine gi_plain ?_ | refine gi_skip ?_ | refine gi_exit rfl ?_))
  refine gi_retX hT Try.func72 rfl [] [] rfl rfl rfl rfl rfl rfl rfl rfl ?_
  exact ⟨by rw [ht]; rfl, rfl, rfl⟩
end Go.Proofs.Ytmocggibcniggaa.Kt
namespace Go.Proofs.Ytmocggibcniggaa.Kt
open Go Kw Go.Proofs
attribute [local irreducible] Kw.GI Kw.GR Kw.FnR Kw.FnX Kw.FnI
set_option maxHeartbeats 8000000
set_option maxRecDepth 100000
/-! ### routes -/
structure Rt where
  p : Int
  b : Int
  c : Int
  o : Int
  n : Int
  deriving DecidableEq
abbrev Rt.row (x : Rt) : List RV := [.v (.int .i64 x.p), .v (.int .i64 x.b), .v (.int .i64 x.c), .v (.int .i64 x.o), .v (.int .i64 x.n)]
abbrev Rt.av (x : Rt) : AV := .agg [I x.p, I x.b, I x.c, I x.o, I x.n]
abbrev eRt (l : List Rt) : Option SE := some ⟨67, 5, l.map Rt.row, false⟩
abbrev rsRt (l : List Rt) : AV := .r (.rs 5 (l.map Rt.row))
abbrev hRt (x : Rt) : Option (TypeId × List AV) := some (67, [I x.p, I x.b, I x.c, I x.o, I x.n])
def cmpRt (x y : Rt) : Int := orL [cmp3 x.p y.p, cmp3 x.b y.b, cmp3 x.c y.c]
def eqRt (x y : Rt) : Bool := eqB x.p y.p && eqB x.b y.b
end Go.Proofs.Ytmocggibcniggaa.Kt
namespace Go.Proofs.Ytmocggibcniggaa.Kt
open Go Kw Go.Proofs
set_option maxHeartbeats 4000000
set_option maxRecDepth 100000
/-! ### the order of routes; lists that are one but for the order of different keys -/
def kLt (x y : Rt) : Prop := x.p < y.p ∨ (x.p = y.p ∧ (x.b < y.b ∨ (x.b = y.b ∧ x.c < y.c)))
def Rt.key (x : Rt) : Int × Int × Int := (x.p, x.b, x.c)
theorem kLt_le {x y : Rt} (h : kLt x y) : ¬ kLt y x := by unfold kLt at *; omega
theorem kLt_irr (x : Rt) : ¬ kLt x x := by unfold kLt; omega
/-- The same, but for the order of different keys. -/
def Stb (l m : List Rt) : Prop := ∀ k, m.filter (fun x => decide (x.key = k)) = l.filter (fun x => decide (x.key = k))
theorem Stb.rfl {l : List Rt} : Stb l l := fun _ => Eq.refl _
theorem Stb.trans {l m n : List Rt} (h : Stb l m) (h' : Stb m n) : Stb l n := fun k => (h' k).trans (h k)
theorem Stb.app {a b a' b' : List Rt} (h : Stb a a') (h' : Stb b b') : Stb (a ++ b) (a' ++ b') := fun k => by
  rw [List.filter_append, List.filter_append, h k, h' k]
theorem stb_swap {x y : Rt} (h : x.key ≠ y.key) : Stb [x, y] [y, x] := fun k => by
  by_cases h1 : x.key = k
  · have h2 : ¬ y.key = k := fun e => h (h1.trans e.symm)
    simp [h1, h2]
  · by_cases h2 : y.key = k <;> simp [h1, h2]
theorem Stb.mem {l m : List Rt} (h : Stb l m) {x : Rt} : x ∈ m ↔ x ∈ l := by
  have := h x.key
  constructor
  · intro hx
    have : x ∈ m.filter (fun y => decide (y.key = x.key)) := List.mem_filter.2 ⟨hx, decide_eq_true (Eq.refl _)⟩
    rw [h x.key] at this
    exact (List.mem_filter.1 this).1
  · intro hx
    have : x ∈ l.filter (fun y => decide (y.key = x.key)) := List.mem_filter.2 ⟨hx, decide_eq_true (Eq.refl _)⟩
    rw [← h x.key] at this
    exact (List.mem_filter.1 this).1
/-- Sorted between two places. -/
def Srt (a b : Nat) (l : List Rt) : Prop := ∀ (i j : Nat) x y, a ≤ i → i < j → j < b → l[i]? = some x → l[j]? = some y → ¬ kLt y x
/-- Turned between two places alone, the same there but for the order of different keys. -/
structure Seg (a b : Nat) (l m : List Rt) : Prop where
  len : m.length = l.length
  lo : ∀ (i : Nat), i < a → m[i]? = l[i]?
  hi : ∀ (i : Nat), b ≤ i → m[i]? = l[i]?
  stb : Stb l m
theorem Seg.rfl {a b : Nat} {l : List Rt} : Seg a b l l := ⟨Eq.refl _, fun _ _ => Eq.refl _, fun _ _ => Eq.refl _, Stb.rfl⟩
theorem Seg.trans {a b : Nat} {l m n : List Rt} (h : Seg a b l m) (h' : Seg a b m n) : Seg a b l n :=
  ⟨h'.len.trans h.len, fun i hi => (h'.lo i hi).trans (h.lo i hi), fun i hi => (h'.hi i hi).trans (h.hi i hi), h.stb.trans h'.stb⟩
theorem Seg.wide {a b a' b' : Nat} {l m : List Rt} (h : Seg a b l m) (ha : a' ≤ a) (hb : b ≤ b') : Seg a' b' l m :=
  ⟨h.len, fun i hi => h.lo i (by omega), fun i hi => h.hi i (by omega), h.stb⟩
/-- Two neighbours are exchanged. -/
abbrev swpL (l : List Rt) (j : Nat) (x y : Rt) : List Rt := (l.set (j + 1) x).set j y
theorem swp_get {l : List Rt} {j : Nat} {x y : Rt} (hj : j + 1 < l.length) (i : Nat) : (swpL l j x y)[i]? = if i = j then some y else if i = j + 1 then some x else l[i]? := by
  by_cases h : i = j
  · subst h
    rw [if_pos (Eq.refl _), List.getElem?_set_self (by rw [List.length_set]; omega)]
  · rw [if_neg h, List.getElem?_set_ne (fun e => h e.symm)]
    by_cases h' : i = j + 1
    · subst h'
      rw [if_pos (Eq.refl _), List.getElem?_set_self hj]
    · rw [if_neg h', List.getElem?_set_ne (fun e => h' e.symm)]
theorem split2 {l : List Rt} {j : Nat} {x y : Rt} (hx : l[j]? = some x) (hy : l[j + 1]? = some y) : l = l.take j ++ ([x, y] ++ l.drop (j + 2)) := by
  have h1 := (List.getElem?_eq_some_iff.1 hx).1
  have h2 := (List.getElem?_eq_some_iff.1 hy).1
  conv => lhs; rw [← List.take_append_drop j l]
  rw [List.drop_eq_getElem_cons h1, List.drop_eq_getElem_cons h2, (List.getElem?_eq_some_iff.1 hx).2, (List.getElem?_eq_some_iff.1 hy).2]
  rfl
theorem Seg.swap {a b : Nat} {l : List Rt} {j : Nat} {x y : Rt} (ha : a ≤ j) (hb : j + 1 < b) (hx : l[j]? = some x) (hy : l[j + 1]? = some y) (h : x.key ≠ y.key) : Seg a b l (swpL l j x y) := by
  have h1 := (List.getElem?_eq_some_iff.1 hx).1
  have h2 := (List.getElem?_eq_some_iff.1 hy).1
  have hg := fun i => swp_get (x := x) (y := y) h2 i
  refine ⟨by simp, fun i hi => ?_, fun i hi => ?_, ?_⟩
  · rw [hg i, if_neg (by omega), if_neg (by omega)]
  · rw [hg i, if_neg (by omega), if_neg (by omega)]
  · have e1 := split2 hx hy
    have hx' : (swpL l j x y)[j]? = some y := by rw [hg, if_pos (Eq.refl _)]
    have hy' : (swpL l j x y)[j + 1]? = some x := by rw [hg, if_neg (by omega), if_pos (Eq.refl _)]
    have e2 := split2 hx' hy'
    have t1 : (swpL l j x y).take j = l.take j := by
      refine List.ext_getElem? (fun i => ?_)
      rw [List.getElem?_take, List.getElem?_take]
      split
      · rw [hg i, if_neg (by omega), if_neg (by omega)]
      · rfl
    have t2 : (swpL l j x y).drop (j + 2) = l.drop (j + 2) := by
      refine List.ext_getElem? (fun i => ?_)
      rw [List.getElem?_drop, List.getElem?_drop, hg, if_neg (by omega), if_neg (by omega)]
    rw [t1, t2] at e2
    have := (Stb.rfl (l := l.take j)).app ((stb_swap h).app (Stb.rfl (l := l.drop (j + 2))))
    rw [← e1, ← e2] at this
    exact this
/-- What holds within the inner loop of an insertion: all is sorted but the one at j, which all behind it are greater than. -/
structure Ins (a i j : Nat) (l : List Rt) : Prop where
  lo : a ≤ j
  hi : j ≤ i
  srt : ∀ (u v : Nat) x y, a ≤ u → u < v → v ≤ i → u ≠ j → v ≠ j → l[u]? = some x → l[v]? = some y → ¬ kLt y x
  gt : ∀ (v : Nat) x y, j < v → v ≤ i → l[j]? = some x → l[v]? = some y → ¬ kLt y x
theorem Ins.start {a i : Nat} {l : List Rt} (ha : a ≤ i) (h : Srt a i l) : Ins a i i l :=
  ⟨ha, Nat.le_refl _, fun u v x y h1 h2 h3 _ h5 hx hy => h u v x y h1 h2 (by omega) hx hy, fun v x y h1 h2 => by omega⟩
theorem Ins.swap {a i j : Nat} {l : List Rt} {x y : Rt} (h : Ins a i (j + 1) l) (ha : a ≤ j) (hx : l[j]? = some x) (hy : l[j + 1]? = some y) (hlt : kLt y x) : Ins a i j (swpL l j x y) := by
  have h2 := (List.getElem?_eq_some_iff.1 hy).1
  have hg := fun i => swp_get (x := x) (y := y) h2 i
  have hhi := h.hi
  refine ⟨ha, by omega, fun u v p q h1 h3 h4 h5 h6 hp hq => ?_, fun v p q h1 h3 hp hq => ?_⟩
  · rw [hg, if_neg h5] at hp
    rw [hg, if_neg h6] at hq
    by_cases e1 : u = j + 1
    · rw [if_pos e1] at hp
      cases hp
      rw [if_neg (by omega)] at hq
      exact h.srt j v x q ha (by omega) h4 (by omega) (by omega) hx hq
    · rw [if_neg e1] at hp
      by_cases e2 : v = j + 1
      · rw [if_pos e2] at hq
        cases hq
        exact h.srt u j p x h1 (by omega) (by omega) (by omega) (by omega) hp hx
      · rw [if_neg e2] at hq
        exact h.srt u v p q h1 h3 h4 e1 e2 hp hq
  · rw [hg, if_pos (Eq.refl _)] at hp
    cases hp
    rw [hg, if_neg (by omega)] at hq
    by_cases e2 : v = j + 1
    · rw [if_pos e2] at hq
      cases hq
      exact kLt_le hlt
    · rw [if_neg e2] at hq
      exact h.gt v y q (by omega) h3 hy hq
end Go.Proofs.Ytmocggibcniggaa.Kt
namespace Go.Proofs.Ytmocggibcniggaa.Kt
open Go Kw Go.Proofs
attribute [local irreducible] Kw.GI Kw.GR Kw.FnR Kw.FnX Kw.FnI
set_option maxHeartbeats 16000000
set_option maxRecDepth 100000
abbrev aCmp : AV := .fn 64 []
abbrev tRt : TypeId := 67
/-- What a sort of the rows from a to b leaves. -/
def RSrt (a b : Nat) (l : List Rt) (L' : List (List RV)) : Prop := ∃ m, L' = m.map Rt.row ∧ Seg a b l m ∧ Srt a b m
end Go.Proofs.Ytmocggibcniggaa.Kt
namespace Go.Proofs.Ytmocggibcniggaa.Kt
open Go Kw Go.Proofs
attribute [local irreducible] Kw.GI Kw.GR Kw.FnR Kw.FnX Kw.FnI
set_option maxHeartbeats 16000000
set_option maxRecDepth 100000
/-! ### two ranges change places; two neighbouring ones are rotated -/
/-- The list behind k exchanges. -/
def mixL (P A C B Q : List Rt) (k : Nat) : List Rt := P ++ ((B.take k ++ A.drop k) ++ (C ++ ((A.take k ++ B.drop k) ++ Q)))
section
variable {P A C B Q : List Rt} {k : Nat} {x y : Rt}
end
end Go.Proofs.Ytmocggibcniggaa.Kt
namespace Go.Proofs.Ytmocggibcniggaa.Kt
open Go Kw Go.Proofs
set_option maxHeartbeats 4000000
set_option maxRecDepth 100000
/-! ### the merge of two sorted runs, in place -/
theorem Srt.sub {a b a' b' : Nat} {l : List Rt} (h : Srt a b l) (ha : a ≤ a') (hb : b' ≤ b) : Srt a' b' l := fun i j x y h1 h2 h3 hx hy => h i j x y (by omega) h2 (by omega) hx hy
theorem Srt.same {a b : Nat} {l q : List Rt} (h : Srt a b l) (hq : ∀ u, a ≤ u → u < b → q[u]? = l[u]?) : Srt a b q := fun i j x y h1 h2 h3 hx hy =>
  h i j x y h1 h2 h3 (by rw [← hq i h1 (by omega)]; exact hx) (by rw [← hq j (by omega) h3]; exact hy)
theorem Srt.at {a b : Nat} {l : List Rt} (h : Srt a b l) {i j : Nat} {x y : Rt} (h1 : a ≤ i) (h2 : i ≤ j) (h3 : j < b) (hx : l[i]? = some x) (hy : l[j]? = some y) : ¬ kLt y x := by
  rcases Nat.lt_or_eq_of_le h2 with hlt | rfl
  · exact h i j x y h1 hlt h3 hx hy
  · rw [hx] at hy; cases hy; exact kLt_irr x
theorem split3 {l : List Rt} {a b : Nat} (hab : a ≤ b) : l = l.take a ++ ((l.drop a).take (b - a) ++ l.drop b) := by
  conv => lhs; rw [← List.take_append_drop a l, ← List.take_append_drop (b - a) (l.drop a)]
  rw [List.drop_drop, show a + (b - a) = b by omega]
theorem Seg.mid {a b : Nat} {l m : List Rt} (h : Seg a b l m) (hab : a ≤ b) : Stb ((l.drop a).take (b - a)) ((m.drop a).take (b - a)) := by
  have e1 : m.take a = l.take a := List.ext_getElem? (fun i => by
    rw [List.getElem?_take, List.getElem?_take]
    split
    · exact h.lo i ‹_›
    · rfl)
  have e2 : m.drop b = l.drop b := List.ext_getElem? (fun i => by
    rw [List.getElem?_drop, List.getElem?_drop]
    exact h.hi _ (by omega))
  intro k
  have hk := h.stb k
  rw [split3 (l := m) hab, split3 (l := l) hab] at hk
  simp only [List.filter_append] at hk
  rw [e1, e2] at hk
  exact List.append_cancel_right (List.append_cancel_left hk)
theorem Seg.mem {a b : Nat} {l m : List Rt} (h : Seg a b l m) {u : Nat} {x : Rt} (h1 : a ≤ u) (h2 : u < b) (hx : m[u]? = some x) : ∃ u', a ≤ u' ∧ u' < b ∧ l[u']? = some x := by
  have hs := h.mid (by omega)
  have hm : x ∈ (m.drop a).take (b - a) := by
    refine List.mem_iff_getElem?.2 ⟨u - a, ?_⟩
    rw [List.getElem?_take, if_pos (by omega), List.getElem?_drop, show a + (u - a) = u by omega]
    exact hx
  obtain ⟨v, hv⟩ := List.mem_iff_getElem?.1 (hs.mem.1 hm)
  rw [List.getElem?_take] at hv
  split at hv
  · rw [List.getElem?_drop] at hv
    exact ⟨a + v, by omega, by omega, hv⟩
  · cases hv
/-- The one at a is carried up to k. -/
structure Up (a k : Nat) (l q : List Rt) : Prop where
  len : q.length = l.length
  get : ∀ u, q[u]? = if u < a ∨ k < u then l[u]? else if u = k then l[a]? else l[u + 1]?
theorem Up.start {a : Nat} {l : List Rt} : Up a a l l := ⟨rfl, fun u => by
  by_cases h : u < a ∨ a < u
  · rw [if_pos h]
  · rw [if_neg h, if_pos (by omega), show u = a by omega]⟩
theorem Up.at {a k : Nat} {l q : List Rt} (h : Up a k l q) (hk : a ≤ k) : q[k]? = l[a]? ∧ q[k + 1]? = l[k + 1]? := by
  refine ⟨?_, ?_⟩
  · rw [h.get, if_neg (by omega), if_pos rfl]
  · rw [h.get, if_pos (by omega)]
theorem Up.step {a k : Nat} {l q : List Rt} {x y : Rt} (h : Up a k l q) (hk : a ≤ k) (hx : l[a]? = some x) (hy : l[k + 1]? = some y) : Up a (k + 1) l (swpL q k x y) := by
  have hl := (List.getElem?_eq_some_iff.1 hy).1
  have hlen := h.len
  refine ⟨by simp [hlen], fun u => ?_⟩
  rw [swp_get (by omega)]
  by_cases h1 : u = k
  · rw [if_pos h1, if_neg (by omega), if_neg (by omega), h1, hy]
  · rw [if_neg h1]
    by_cases h2 : u = k + 1
    · rw [if_pos h2, if_neg (by omega), if_pos h2, hx]
    · rw [if_neg h2, h.get]
      by_cases h3 : u < a ∨ k < u
      · rw [if_pos h3, if_pos (by omega)]
      · rw [if_neg h3, if_neg h1, if_neg (by omega), if_neg h2]
theorem Up.sorted {a k b : Nat} {l q : List Rt} {x : Rt} (h : Up a k l q) (hk : a ≤ k) (hx : l[a]? = some x) (hs : Srt (a + 1) b l) (h1 : ∀ u y, a + 1 ≤ u → u < k + 1 → l[u]? = some y → kLt y x) (h2 : ∀ u y, k + 1 ≤ u → u < b → l[u]? = some y → ¬ kLt y x) (hkb : k < b) : Srt a b q := by
  intro u v p r ha huv hv hp hr
  rw [h.get] at hp hr
  by_cases v1 : k < v
  · rw [if_pos (.inr v1)] at hr
    by_cases u1 : k < u
    · rw [if_pos (.inr u1)] at hp
      exact hs u v p r (by omega) huv hv hp hr
    · rw [if_neg (by omega)] at hp
      by_cases u2 : u = k
      · rw [if_pos u2, hx] at hp
        cases hp
        exact h2 v r (by omega) hv hr
      · rw [if_neg u2] at hp
        exact hs (u + 1) v p r (by omega) (by omega) hv hp hr
  · rw [if_neg (by omega)] at hr
    rw [if_neg (by omega), if_neg (by omega)] at hp
    by_cases v2 : v = k
    · rw [if_pos v2, hx] at hr
      cases hr
      exact kLt_le (h1 (u + 1) p (by omega) (by omega) hp)
    · rw [if_neg v2] at hr
      exact hs (u + 1) (v + 1) p r (by omega) (by omega) (by omega) hp hr
/-- The one at m is carried down to k. -/
structure Dn (k m : Nat) (l q : List Rt) : Prop where
  len : q.length = l.length
  get : ∀ u, q[u]? = if u < k ∨ m < u then l[u]? else if u = k then l[m]? else l[u - 1]?
theorem Dn.start {m : Nat} {l : List Rt} : Dn m m l l := ⟨rfl, fun u => by
  by_cases h : u < m ∨ m < u
  · rw [if_pos h]
  · rw [if_neg h, if_pos (by omega), show u = m by omega]⟩
theorem Dn.at {k m : Nat} {l q : List Rt} (h : Dn (k + 1) m l q) (hk : k + 1 ≤ m) : q[k + 1]? = l[m]? ∧ q[k]? = l[k]? := by
  refine ⟨?_, ?_⟩
  · rw [h.get, if_neg (by omega), if_pos rfl]
  · rw [h.get, if_pos (by omega)]
theorem Dn.step {k m : Nat} {l q : List Rt} {x y : Rt} (h : Dn (k + 1) m l q) (hk : k + 1 ≤ m) (hx : l[m]? = some x) (hy : l[k]? = some y) : Dn k m l (swpL q k y x) := by
  have hl := (List.getElem?_eq_some_iff.1 hx).1
  have hlen := h.len
  refine ⟨by simp [hlen], fun u => ?_⟩
  rw [swp_get (by omega)]
  by_cases h1 : u = k
  · rw [if_pos h1, if_neg (by omega), if_pos h1, hx]
  · rw [if_neg h1]
    by_cases h2 : u = k + 1
    · rw [if_pos h2, if_neg (by omega), if_neg h1, h2, show k + 1 - 1 = k by omega, hy]
    · rw [if_neg h2, h.get]
      by_cases h3 : u < k + 1 ∨ m < u
      · rw [if_pos h3, if_pos (by omega)]
      · rw [if_neg h3, if_neg h2, if_neg (by omega), if_neg h1]
theorem Dn.sorted {a k m : Nat} {l q : List Rt} {x : Rt} (h : Dn k m l q) (hak : a ≤ k) (hk : k ≤ m) (hx : l[m]? = some x) (hs : Srt a m l) (h1 : ∀ u y, a ≤ u → u < k → l[u]? = some y → ¬ kLt x y) (h2 : ∀ u y, k ≤ u → u < m → l[u]? = some y → kLt x y) : Srt a (m + 1) q := by
  intro u v p r ha huv hv hp hr
  rw [h.get] at hp hr
  by_cases u1 : u < k
  · rw [if_pos (.inl u1)] at hp
    by_cases v1 : v < k
    · rw [if_pos (.inl v1)] at hr
      exact hs u v p r ha huv (by omega) hp hr
    · rw [if_neg (by omega)] at hr
      by_cases v2 : v = k
      · rw [if_pos v2, hx] at hr
        cases hr
        exact h1 u p ha u1 hp
      · rw [if_neg v2] at hr
        exact hs u (v - 1) p r ha (by omega) (by omega) hp hr
  · rw [if_neg (by omega)] at hp
    rw [if_neg (by omega), if_neg (by omega)] at hr
    by_cases u2 : u = k
    · rw [if_pos u2, hx] at hp
      cases hp
      exact kLt_le (h2 (v - 1) r (by omega) (by omega) hr)
    · rw [if_neg u2] at hp
      exact hs (u - 1) (v - 1) p r (by omega) (by omega) (by omega) hp hr
/-- Two neighbouring ranges, rotated. -/
structure Rot (s m e d : Nat) (l q : List Rt) : Prop where
  len : q.length = l.length
  get : ∀ u, q[u]? = if u < s ∨ e ≤ u then l[u]? else if u < d then l[u - s + m]? else l[u - d + s]?
/-- What the search has found: where the two runs are to be cut. -/
structure Cut (a m b d s e : Nat) (l : List Rt) : Prop where
  sum : s + e = d + m
  sa : a ≤ s
  sm : s ≤ m
  me : m ≤ e
  eb : e ≤ b
  lt : ∀ x y, s < m → m < e → l[s]? = some x → l[e - 1]? = some y → kLt y x
  le : ∀ x y, a < s → e < b → l[s - 1]? = some x → l[e]? = some y → ¬ kLt y x
/-- What is so behind the rotation. -/
structure Halves (a m b d s e : Nat) (l : List Rt) : Prop where
  s1 : Srt a s l
  s2 : Srt s d l
  s3 : Srt d e l
  s4 : Srt e b l
  cross : ∀ (u v : Nat) x y, a ≤ u → u < d → d ≤ v → v < b → l[u]? = some x → l[v]? = some y → ¬ kLt y x
theorem Halves.done {a m b d s e : Nat} {l q r : List Rt} (h : Halves a m b d s e l) (had : a ≤ d) (hdb : d ≤ b) (h1 : Seg a d l q) (h2 : Srt a d q) (h3 : Seg d b q r) (h4 : Srt d b r) : Seg a b l r ∧ Srt a b r := by
  refine ⟨(h1.wide (Nat.le_refl _) hdb).trans (h3.wide had (Nat.le_refl _)), fun u v x y hu huv hv hx hy => ?_⟩
  by_cases v1 : v < d
  · rw [h3.lo u (by omega)] at hx
    rw [h3.lo v v1] at hy
    exact h2 u v x y hu huv v1 hx hy
  · by_cases u1 : u < d
    · rw [h3.lo u u1] at hx
      obtain ⟨u', p1, p2, p3⟩ := h1.mem hu u1 hx
      obtain ⟨v', q1, q2, q3⟩ := h3.mem (by omega) hv hy
      rw [h1.hi v' q1] at q3
      exact h.cross u' v' x y p1 p2 q1 q2 p3 q3
    · exact h4 u v x y (by omega) huv hv hx hy
end Go.Proofs.Ytmocggibcniggaa.Kt
namespace Go.Proofs.Ytmocggibcniggaa.Kt
open Go Kw Go.Proofs
attribute [local irreducible] Kw.GI Kw.GR Kw.FnR Kw.FnX Kw.FnI
set_option maxHeartbeats 16000000
set_option maxRecDepth 100000
theorem half {i j : Nat} (h : i + j < 1000000000) : (wr .u64 (wr .i64 ((i : Int) + (j : Int)))).fdiv (2 ^ (min (1 : Int).toNat IntKind.u64.bits)) = (((i + j) / 2 : Nat) : Int) := by
  rw [wr_i64 (by omega) (by omega), wr_eq]
  have : IntKind.u64.wrap ((i : Int) + (j : Int)) = (i : Int) + j := by
    unfold IntKind.wrap
    simp [IntKind.bits, IntKind.signed]
    omega
  rw [this]
  show Int.fdiv ((i : Int) + j) (2 ^ 1) = _
  rw [Int.fdiv_eq_ediv_of_nonneg _ (by decide)]
  omega
theorem wadd1 {a : Nat} (hb : a < 1000000000) : wr .i64 ((a : Int) + 1) = ((a + 1 : Nat) : Int) := by
  rw [wr_i64 (by omega) (by omega)]; omega
theorem nn (i : Nat) : (0 : Int) ≤ (i : Int) := by omega
end Go.Proofs.Ytmocggibcniggaa.Kt
namespace Go.Proofs.Ytmocggibcniggaa.Kt
open Go Kw Go.Proofs
attribute [local irreducible] Kw.GI Kw.GR Kw.FnR Kw.FnX Kw.FnI
set_option maxHeartbeats 16000000
set_option maxRecDepth 100000
end Go.Proofs.Ytmocggibcniggaa.Kt
namespace Go.Proofs.Ytmocggibcniggaa.Kt
open Go Kw Go.Proofs
attribute [local irreducible] Kw.GI Kw.GR Kw.FnR Kw.FnX Kw.FnI
set_option maxHeartbeats 16000000
set_option maxRecDepth 100000
end Go.Proofs.Ytmocggibcniggaa.Kt
namespace Go.Proofs.Ytmocggibcniggaa.Kt
open Go Kw Go.Proofs
attribute [local irreducible] Kw.GI Kw.GR Kw.FnR Kw.FnX Kw.FnI
set_option maxHeartbeats 16000000
set_option maxRecDepth 100000
theorem dv_lt {s u a : Nat} (h1 : s ∣ u) (h2 : s ∣ a) (h : u < a) : u + s ≤ a := by
  obtain ⟨j, rfl⟩ := h1
  obtain ⟨k, rfl⟩ := h2
  have : j < k := Nat.lt_of_mul_lt_mul_left h
  exact Nat.le_trans (Nat.le_of_eq (Nat.mul_succ s j).symm) (Nat.mul_le_mul_left s this)
/-- Each block of s is sorted. -/
def Blk (s n : Nat) (l : List Rt) : Prop := ∀ u, s ∣ u → Srt u (min (u + s) n) l
/-- Those of 2 s ahead of a are, behind it those of s. -/
structure Half (s a n : Nat) (l : List Rt) : Prop where
  dv : 2 * s ∣ a
  lo : ∀ u, 2 * s ∣ u → u < a → Srt u (u + 2 * s) l
  hi : ∀ u, s ∣ u → a ≤ u → Srt u (min (u + s) n) l
theorem Half.start {s n : Nat} {l : List Rt} (h : Blk s n l) : Half s 0 n l := ⟨Nat.dvd_zero _, fun u _ h => by omega, fun u hu _ => h u hu⟩
theorem Half.dvs {s a n : Nat} {l : List Rt} (h : Half s a n l) : s ∣ a := Nat.dvd_trans ⟨2, by omega⟩ h.dv
theorem Half.step {s a n : Nat} {l q : List Rt} (h : Half s a n l) (h1 : Seg a (a + 2 * s) l q) (h2 : Srt a (a + 2 * s) q) : Half s (a + 2 * s) n q := by
  refine ⟨Nat.dvd_add h.dv (Nat.dvd_refl _), fun u hu hua => ?_, fun u hu hua => ?_⟩
  · by_cases e : u < a
    · have := dv_lt hu h.dv e
      exact (h.lo u hu e).same (fun v _ hv => h1.lo v (by omega))
    · have : u = a := by
        rcases Nat.lt_or_ge a u with h3 | h3
        · have := dv_lt h.dv hu h3; omega
        · omega
      subst this
      exact h2
  · exact (h.hi u hu (by omega)).same (fun v hv _ => h1.hi v (by omega))
theorem Half.merge {s a n : Nat} {l : List Rt} (h : Half s a n l) {e : Nat} (h1 : a + s ≤ e) (h2 : e ≤ n) (h3 : e ≤ a + 2 * s) : Srt a (a + s) l ∧ Srt (a + s) e l := by
  refine ⟨(h.hi a h.dvs (Nat.le_refl _)).sub (Nat.le_refl _) (by omega), (h.hi (a + s) (Nat.dvd_add h.dvs (Nat.dvd_refl _)) (by omega)).sub (Nat.le_refl _) (by omega)⟩
theorem Half.done {s a n : Nat} {l q : List Rt} (h : Half s a n l) (han : n < a + 2 * s) (h1 : Seg a n l q) (h2 : Srt a n q) : Blk (2 * s) n q := by
  intro u hu
  by_cases e : u < a
  · have := dv_lt hu h.dv e
    exact ((h.lo u hu e).same (fun v _ hv => h1.lo v (by omega))).sub (Nat.le_refl _) (by omega)
  · rcases Nat.lt_or_ge a u with h3 | h3
    · have := dv_lt h.dv hu h3
      exact fun i j x y h1 h2 h3 => by omega
    · have : u = a := by omega
      subst this
      exact h2.sub (Nat.le_refl _) (by omega)
end Go.Proofs.Ytmocggibcniggaa.Kt
namespace Go.Proofs.Ytmocggibcniggaa.Kt
open Go Kw Go.Proofs
attribute [local irreducible] Kw.GI Kw.GR Kw.FnR Kw.FnX Kw.FnI
set_option maxHeartbeats 16000000
set_option maxRecDepth 100000
/-- The first i without those that are as the one ahead of them. -/
def cpN (l : List Rt) : Nat → List Rt
  | 0 => []
  | i + 1 => match l[i]?, l[i - 1]? with
    | some y, some x => if i = 0 ∨ eqRt y x = false then cpN l i ++ [y] else cpN l i
    | _, _ => cpN l i
theorem cpN_eq {l : List Rt} {i : Nat} {x y : Rt} (hx : l[i]? = some x) (hy : l[i + 1]? = some y) : cpN l (i + 2) = if eqRt y x = false then cpN l (i + 1) ++ [y] else cpN l (i + 1) := by
  rw [cpN, hy, show i + 1 - 1 = i by omega, hx]
  simp
theorem cpN_one {l : List Rt} {x : Rt} (hx : l[0]? = some x) : cpN l 1 = [x] := by
  rw [cpN, hx]
  simp [cpN, hx]
abbrev cpL (l : List Rt) : List Rt := cpN l l.length
abbrev aEq : AV := .fn 68 []
end Go.Proofs.Ytmocggibcniggaa.Kt
namespace Go.Proofs.Ytmocggibcniggaa.Kt
open Go Kw Go.Proofs
/-! ### the tree, as it grows -/
/-- Each Node but the first is the best one behind those ahead of it. -/
def Grown (bt : List Nd → Nd → Nd → Bool) (es : List Eg) (t : List Nd) : Prop := ∀ j, 1 ≤ j → j < t.length → bestL bt (t.take j) es = t[j]?
theorem grown_one (bt : List Nd → Nd → Nd → Bool) (es : List Eg) (n : Nd) : Grown bt es [n] := fun j h1 h2 => by
  have : j < 1 := h2
  omega
theorem grown_add {bt : List Nd → Nd → Nd → Bool} {es : List Eg} {t : List Nd} {n : Nd} (h : Grown bt es t) (hn : bestL bt t es = some n) : Grown bt es (t ++ [n]) := fun j h1 h2 => by
  rw [List.length_append, List.length_singleton] at h2
  rcases Nat.lt_or_ge j t.length with hj | hj
  · rw [List.take_append_of_le_length (by omega), List.getElem?_append_left hj]
    exact h j h1 hj
  · have : j = t.length := by omega
    subst this
    rw [List.take_left', hn] <;> simp
theorem treeN_grown {bt : List Nd → Nd → Nd → Bool} {es : List Eg} : ∀ (k : Nat) (t : List Nd), Grown bt es t → Grown bt es (treeN bt es k t) ∧ (∃ r, treeN bt es k t = t ++ r) ∧ (bestL bt (treeN bt es k t) es = none ∨ (treeN bt es k t).length = t.length + k)
  | 0, t, h => ⟨h, ⟨[], by simp [treeN]⟩, .inr rfl⟩
  | k + 1, t, h => by
    cases hb : bestL bt t es with
    | none => rw [treeN_none hb]; exact ⟨h, ⟨[], by simp⟩, .inl hb⟩
    | some n =>
      rw [treeN_some hb]
      obtain ⟨h1, ⟨r, h2⟩, h3⟩ := treeN_grown k (t ++ [n]) (grown_add h hb)
      refine ⟨h1, ⟨n :: r, by rw [h2]; simp⟩, ?_⟩
      rcases h3 with h3 | h3
      · exact .inl h3
      · right; rw [h3]; simp; omega
/-- No candidate costs less than the best. -/
def Cheap (bt : List Nd → Nd → Nd → Bool) : Prop := ∀ t a b, (bt t a b = true → a.c ≤ b.c) ∧ (bt t a b = false → b.c ≤ a.c)
theorem soon_cheap : Cheap soon := fun t a b => by
  have key : ∀ va vb, (soonF va vb a b = true → a.c ≤ b.c) ∧ (soonF va vb a b = false → b.c ≤ a.c) := fun va vb => by
    unfold soonF
    rw [notB_eq, eqB_eq, ltB_eq]
    by_cases h : a.c = b.c
    · rw [h]
      exact ⟨fun _ => Int.le_refl _, fun _ => Int.le_refl _⟩
    · have : (!(a.c == b.c)) = true := by simpa using h
      rw [this]
      refine ⟨fun h => ?_, fun h => ?_⟩
      · have := of_decide_eq_true h; omega
      · have := of_decide_eq_false h; omega
  exact key _ _
theorem best_least {bt : List Nd → Nd → Nd → Bool} (hc : Cheap bt) {t : List Nd} : ∀ {es : List Eg} {m : Option Nd} {b : Nd}, es.foldl (stepT bt t) m = some b → (∀ x, m = some x → b.c ≤ x.c) ∧ ∀ e ∈ es, ∀ n, candL t e = some n → b.c ≤ n.c
  | [], m, b, h => ⟨fun x hx => by
      have h : m = some b := h
      rw [h] at hx; cases hx; exact Int.le_refl _, fun e he => by cases he⟩
  | e :: es, m, b, h => by
    obtain ⟨h1, h2⟩ := best_least hc (es := es) h
    unfold stepT at h1
    have h3 : (∀ x, m = some x → b.c ≤ x.c) ∧ ∀ n, candL t e = some n → b.c ≤ n.c := by
      cases hn : candL t e with
      | none =>
        rw [hn] at h1
        exact ⟨h1, fun n h => by cases h⟩
      | some n =>
        rw [hn] at h1
        cases m with
        | none =>
          refine ⟨fun x hx => (nomatch hx), fun n' hn' => ?_⟩
          cases hn'
          exact h1 n rfl
        | some x =>
          simp only at h1
          have hcc := hc t n x
          cases hb : bt t n x with
          | true =>
            rw [hb] at h1
            have := h1 n rfl
            refine ⟨fun y hy => ?_, fun n' hn' => ?_⟩
            · cases hy; exact Int.le_trans this (hcc.1 hb)
            · cases hn'; exact this
          | false =>
            rw [hb] at h1
            have := h1 x rfl
            refine ⟨fun y hy => ?_, fun n' hn' => ?_⟩
            · cases hy; exact this
            · cases hn'; exact Int.le_trans this (hcc.2 hb)
    refine ⟨h3.1, fun e' he' n hn => ?_⟩
    rcases List.mem_cons.1 he' with rfl | he'
    · exact h3.2 n hn
    · exact h2 e' he' n hn
theorem best_none {bt : List Nd → Nd → Nd → Bool} {t : List Nd} : ∀ {es : List Eg} {m : Option Nd}, es.foldl (stepT bt t) m = none → m = none ∧ ∀ e ∈ es, candL t e = none
  | [], m, h => ⟨h, fun e he => by cases he⟩
  | e :: es, m, h => by
    obtain ⟨h1, h2⟩ := best_none (es := es) h
    have h3 : m = none ∧ candL t e = none := by
      unfold stepT at h1
      cases hn : candL t e with
      | none => rw [hn] at h1; exact ⟨h1, rfl⟩
      | some n =>
        rw [hn] at h1
        cases m with
        | none => cases h1
        | some x =>
          simp only at h1
          split at h1 <;> cases h1
    refine ⟨h3.1, fun e' he' => ?_⟩
    rcases List.mem_cons.1 he' with rfl | he'
    · exact h3.2
    · exact h2 e' he'
theorem cand_some {t : List Nd} {e : Eg} {n : Nd} (h : candL t e = some n) : ∃ p x, placeL t e.f = some p ∧ t[p]? = some x ∧ x.v = e.f ∧ placeL t e.t = none ∧ n = ⟨e.t, p, wr .i64 (x.c + e.c), e.d⟩ := by
  unfold candL at h
  split at h
  · rename_i p hp hq
    cases h
    obtain ⟨x, h1, h2⟩ := placeL_some hp
    exact ⟨p, x, hp, h1, h2, hq, by rw [List.getD_eq_getElem?_getD, h1]; rfl⟩
  · cases h
theorem cand_mk {t : List Nd} {e : Eg} {p : Nat} {x : Nd} (hp : placeL t e.f = some p) (hx : t[p]? = some x) (hq : placeL t e.t = none) : candL t e = some ⟨e.t, p, wr .i64 (x.c + e.c), e.d⟩ := by
  unfold candL
  rw [hp, hq]
  simp only
  rw [List.getD_eq_getElem?_getD, hx]
  rfl
section
variable {bt : List Nd → Nd → Nd → Bool} {es : List Eg} {t : List Nd}
/-- A Node behind the first one: the edge by which it came. -/
theorem Grown.edge (h : Grown bt es t) {j : Nat} (hj : 1 ≤ j) {n : Nd} (hn : t[j]? = some n) : ∃ e ∈ es, ∃ (p : Nat) (x : Nd), p < j ∧ t[p]? = some x ∧ x.v = e.f ∧ e.t = n.v ∧ n.p = p ∧ n.c = wr .i64 (x.c + e.c) ∧ n.d = e.d ∧ ∀ m ∈ t.take j, m.v ≠ n.v := by
  have hl := (List.getElem?_eq_some_iff.1 hn).1
  have hb := h j hj hl
  rw [hn] at hb
  rcases best_fold hb with hb | ⟨e, he, hc⟩
  · cases hb
  · obtain ⟨p, x, h1, h2, h3, h4, h5⟩ := cand_some hc
    have hpj : p < j := by have := placeL_lt h1; rw [List.length_take] at this; omega
    rw [List.getElem?_take, if_pos hpj] at h2
    subst h5
    exact ⟨e, he, p, x, hpj, h2, h3, rfl, rfl, rfl, rfl, placeL_none h4⟩
/-- No vertex twice. -/
theorem Grown.inj (h : Grown bt es t) {i j : Nat} {a b : Nd} (ha : t[i]? = some a) (hb : t[j]? = some b) (hv : a.v = b.v) : i = j := by
  have key : ∀ {i j : Nat} {a b : Nd}, t[i]? = some a → t[j]? = some b → i < j → a.v ≠ b.v := fun {i j a b} ha hb hij => by
    obtain ⟨_, _, _, _, _, _, _, _, _, _, _, hne⟩ := h.edge (by omega) hb
    refine hne a (List.mem_iff_getElem?.2 ⟨i, ?_⟩)
    rw [List.getElem?_take, if_pos hij]; exact ha
  rcases Nat.lt_trichotomy i j with hij | hij | hij
  · exact absurd hv (key ha hb hij)
  · exact hij
  · exact absurd hv.symm (key hb ha hij)
theorem Grown.place (h : Grown bt es t) {j : Nat} {n : Nd} (hn : t[j]? = some n) : placeL t n.v = some j :=
  placeL_at (fun i hi m hm hv => by have := h.inj hm hn hv; omega) hn rfl
/-- The costs: none below nought, not greater than so many edges. -/
theorem Grown.cost (h : Grown bt es t) {C : Int} (h0 : ∀ n, t[0]? = some n → n.c = 0) (hl : t.length ≤ 100000) (hC : C ≤ 1000000) (hes : ∀ e ∈ es, 0 ≤ e.c ∧ e.c ≤ C) : ∀ (j : Nat) (n : Nd), t[j]? = some n → 0 ≤ n.c ∧ n.c ≤ j * C := by
  intro j
  induction j using Nat.strongRecOn with
  | _ j ih =>
    intro n hn
    rcases Nat.eq_zero_or_pos j with rfl | hj
    · rw [h0 n hn]; simp
    · obtain ⟨e, he, p, x, hp, hx, _, _, _, hc, _⟩ := h.edge hj hn
      obtain ⟨h1, h2⟩ := ih p hp x hx
      obtain ⟨h3, h4⟩ := hes e he
      have hjl := (List.getElem?_eq_some_iff.1 hn).1
      have hpC : (p : Int) * C ≤ (j - 1 : Nat) * C := Int.mul_le_mul_of_nonneg_right (by omega) (by omega)
      have hjC : ((j - 1 : Nat) : Int) * C + C = (j : Int) * C := by
        rw [show ((j - 1 : Nat) : Int) = (j : Int) - 1 from by omega, Int.sub_mul, Int.one_mul]; omega
      have hb : (j : Int) * C ≤ 100000 * 1000000 := Int.le_trans (Int.mul_le_mul_of_nonneg_left hC (by omega)) (Int.mul_le_mul_of_nonneg_right (by omega) (by omega))
      rw [hc, wr_i64 (by omega) (by omega)]
      omega
/-- Who could come next costs no less than who comes. -/
theorem Grown.least (h : Grown bt es t) (hc : Cheap bt) {C : Int} (h0 : ∀ n, t[0]? = some n → n.c = 0) (hl : t.length ≤ 100000) (hC : C ≤ 1000000) (hes : ∀ e ∈ es, 0 ≤ e.c ∧ e.c ≤ C) {e : Eg} (he : e ∈ es) {a j : Nat} {x n : Nd} (haj : a < j) (hx : t[a]? = some x) (hxv : x.v = e.f) (hn : t[j]? = some n) (hnew : ∀ m ∈ t.take j, m.v ≠ e.t) : n.c ≤ x.c + e.c := by
  have hjl := (List.getElem?_eq_some_iff.1 hn).1
  have hb := h j (by omega) hjl
  rw [hn] at hb
  have hxt : (t.take j)[a]? = some x := by rw [List.getElem?_take, if_pos haj]; exact hx
  have hpl : placeL (t.take j) e.f = some a := placeL_at (fun i hi m hm hv => by
    rw [List.getElem?_take] at hm
    split at hm
    · have := h.inj hm hx (hv.trans hxv.symm); omega
    · cases hm) hxt hxv
  have hcand := cand_mk hpl hxt (placeL_no hnew)
  have := (best_least hc hb).2 e he _ hcand
  obtain ⟨c1, c2⟩ := h.cost h0 hl hC hes a x hx
  obtain ⟨c3, c4⟩ := hes e he
  have haC : (a : Int) * C ≤ 100000 * 1000000 := Int.le_trans (Int.mul_le_mul_of_nonneg_left hC (by omega)) (Int.mul_le_mul_of_nonneg_right (by omega) (by omega))
  have this : n.c ≤ wr .i64 (x.c + e.c) := this
  rwa [wr_i64 (by omega) (by omega)] at this
/-- The costs do not fall. -/
theorem Grown.rise1 (h : Grown bt es t) (hc : Cheap bt) {C : Int} (h0 : ∀ n, t[0]? = some n → n.c = 0) (hl : t.length ≤ 100000) (hC : C ≤ 1000000) (hes : ∀ e ∈ es, 0 ≤ e.c ∧ e.c ≤ C) {j : Nat} {x n : Nd} (hx : t[j]? = some x) (hn : t[j + 1]? = some n) : x.c ≤ n.c := by
  obtain ⟨e, he, p, y, hp, hy, hyv, het, _, hcn, _, hne⟩ := h.edge (by omega) hn
  obtain ⟨c1, c2⟩ := h.cost h0 hl hC hes p y hy
  obtain ⟨c3, c4⟩ := hes e he
  have hpl := (List.getElem?_eq_some_iff.1 hy).1
  have haC : (p : Int) * C ≤ 100000 * 1000000 := Int.le_trans (Int.mul_le_mul_of_nonneg_left hC (by omega)) (Int.mul_le_mul_of_nonneg_right (by omega) (by omega))
  rw [hcn, wr_i64 (by omega) (by omega)]
  rcases Nat.lt_or_ge p j with hpj | hpj
  · exact h.least hc h0 hl hC hes he hpj hy hyv hx (fun m hm => by
      rw [het]
      refine hne m ?_
      obtain ⟨i, hi⟩ := List.mem_iff_getElem?.1 hm
      rw [List.getElem?_take] at hi
      split at hi
      · exact List.mem_iff_getElem?.2 ⟨i, by rw [List.getElem?_take, if_pos (by omega)]; exact hi⟩
      · cases hi)
  · have : p = j := by omega
    subst this
    rw [hx] at hy; cases hy; omega
theorem Grown.rise (h : Grown bt es t) (hc : Cheap bt) {C : Int} (h0 : ∀ n, t[0]? = some n → n.c = 0) (hl : t.length ≤ 100000) (hC : C ≤ 1000000) (hes : ∀ e ∈ es, 0 ≤ e.c ∧ e.c ≤ C) {i : Nat} {x : Nd} (hx : t[i]? = some x) : ∀ (d : Nat) (n : Nd), t[i + d]? = some n → x.c ≤ n.c
  | 0, n, hn => by rw [Nat.add_zero, hx] at hn; cases hn; exact Int.le_refl _
  | d + 1, n, hn => by
    have hlt := (List.getElem?_eq_some_iff.1 hn).1
    have hy : t[i + d]? = some t[i + d] := List.getElem?_eq_getElem (by omega)
    exact Int.le_trans (h.rise hc h0 hl hC hes hx d _ hy) (h.rise1 hc h0 hl hC hes hy hn)
/-- No edge makes a way shorter than the tree's. -/
theorem Grown.short (h : Grown bt es t) (hc : Cheap bt) {C : Int} (h0 : ∀ n, t[0]? = some n → n.c = 0) (hl : t.length ≤ 100000) (hC : C ≤ 1000000) (hes : ∀ e ∈ es, 0 ≤ e.c ∧ e.c ≤ C) {e : Eg} (he : e ∈ es) {a b : Nat} {x y : Nd} (hx : t[a]? = some x) (hxv : x.v = e.f) (hy : t[b]? = some y) (hyv : y.v = e.t) : y.c ≤ x.c + e.c := by
  rcases Nat.lt_or_ge a b with hab | hab
  · exact h.least hc h0 hl hC hes he hab hx hxv hy (fun m hm hv => by
      obtain ⟨i, hi⟩ := List.mem_iff_getElem?.1 hm
      rw [List.getElem?_take] at hi
      split at hi
      · have := h.inj hi hy (hv.trans hyv.symm); omega
      · cases hi)
  · have := h.rise hc h0 hl hC hes hy (a - b) x (by rw [show b + (a - b) = a from by omega]; exact hx)
    have := (hes e he).1
    omega
/-- Where nobody is best no edge leads on. -/
theorem closed (hb : bestL bt t es = none) {e : Eg} (he : e ∈ es) {a : Nat} (ha : placeL t e.f = some a) : ∃ b, placeL t e.t = some b := by
  have := (best_none hb).2 e he
  unfold candL at this
  rw [ha] at this
  cases hq : placeL t e.t with
  | none => rw [hq] at this; cases this
  | some b => exact ⟨b, rfl⟩
end
/-- The tree of a map whose edges lie among its vertices ends where nobody is best. -/
theorem tree_end {bt : List Nd → Nd → Nd → Bool} {vs : List Vt} {es : List Eg} {root : Vt} (hr : root ∈ vs) (hto : ∀ e ∈ es, e.t ∈ vs) :
    Grown bt es (treeN bt es vs.length [rootN root]) ∧ (∃ r, treeN bt es vs.length [rootN root] = rootN root :: r) ∧ bestL bt (treeN bt es vs.length [rootN root]) es = none ∧ (∀ n ∈ treeN bt es vs.length [rootN root], n.v ∈ vs) ∧ ((treeN bt es vs.length [rootN root]).map Nd.v).Nodup := by
  obtain ⟨h1, ⟨r, h2⟩, h3⟩ := treeN_grown vs.length [rootN root] (grown_one bt es _)
  have hin : ∀ n ∈ treeN bt es vs.length [rootN root], n.v ∈ vs := fun n hn => by
    obtain ⟨j, hj⟩ := List.mem_iff_getElem?.1 hn
    rcases Nat.eq_zero_or_pos j with rfl | hp
    · rw [h2] at hj
      cases hj
      exact hr
    · obtain ⟨e, he, _, _, _, _, _, hv, _⟩ := h1.edge hp hj
      rw [← hv]; exact hto e he
  have hnd : ((treeN bt es vs.length [rootN root]).map Nd.v).Nodup := by
    refine List.pairwise_iff_getElem.2 (fun i j hi hj hij e => ?_)
    rw [List.length_map] at hi hj
    have := h1.inj (List.getElem?_eq_getElem hi) (List.getElem?_eq_getElem hj) (by simpa using e)
    omega
  refine ⟨h1, ⟨r, by rw [h2]; rfl⟩, ?_, hin, hnd⟩
  rcases h3 with h3 | h3
  · exact h3
  · have := pig hnd (fun x hx => by
      obtain ⟨n, hn, rfl⟩ := List.mem_map.1 hx
      exact hin n hn)
    rw [List.length_map, h3, List.length_singleton] at this
    omega
end Go.Proofs.Ytmocggibcniggaa.Kt
namespace Go.Proofs.Ytmocggibcniggaa.Kt
open Go Kw Go.Proofs
/-! ### what an edge costs -/
theorem edRs_c {l : List Ls} {v : Vt} {rt : List Int} {e : Eg} : ∀ {j : Nat}, e ∈ edRs l v rt j → e.c = 0
  | 0, h => by cases h
  | j + 1, h => by
    unfold edRs at h
    rcases List.mem_append.1 h with h | h
    · exact edRs_c h
    · split at h
      · unfold edR at h
        split at h
        · cases h
        · split at h
          · rw [List.mem_singleton.1 h]
          · cases h
      · cases h
theorem from_cost {l : List Ls} {v : Vt} {e : Eg} (h : e ∈ fromL l v) : e.c = 0 ∨ ∃ x ∈ l, ∃ k ∈ x.lk, e.c = k.c := by
  unfold fromL at h
  rcases List.mem_append.1 h with h | h
  · right
    obtain ⟨k, hk, he⟩ := List.mem_flatMap.1 h
    cases hx : findL l v with
    | none => rw [hx] at hk; cases hk
    | some x =>
      rw [hx] at hk
      refine ⟨x, find_mem hx, k, hk, ?_⟩
      rcases List.mem_append.1 he with he | he
      · unfold edK1 at he
        split at he
        · split at he
          · rw [List.mem_singleton.1 he]
          · cases he
        · cases he
      · unfold edK2 at he
        split at he
        · split at he
          · rw [List.mem_singleton.1 he]
          · cases he
        · cases he
  · exact .inl (edRs_c h)
theorem GrOk.link {n : Int} {l : List Ls} (h : GrOk n l) : ∀ x ∈ l, ∀ k ∈ x.lk, LkOk k := by
  obtain ⟨k, gs, ns, h1, rfl, h2, h3, h4⟩ := h.ex
  intro x hx q hq
  rcases List.mem_append.1 hx with hx | hx
  · obtain ⟨j, hj⟩ := List.mem_iff_getElem?.1 hx
    exact (h2.el j x hj).2.1 q hq
  · rw [(h3 x hx).1] at hq; cases hq
theorem GrOk.cost {n : Int} {l : List Ls} (h : GrOk n l) : ∀ e ∈ (mapL l).es, 0 ≤ e.c ∧ e.c ≤ 10 := fun e he => by
  obtain ⟨v, _, hv⟩ := List.mem_flatMap.1 he
  rcases from_cost hv with h0 | ⟨x, hx, k, hk, h0⟩
  · omega
  · have := h.link x hx k hk
    rw [h0]; exact ⟨this.1, this.2.1⟩
/-- The tree of a map, from one of its vertices. -/
structure Tr (l : List Ls) (v : Vt) (t : List Nd) : Prop where
  gr : Grown soon (mapL l).es t
  hd : t[0]? = some (rootN v)
  en : bestL soon t (mapL l).es = none
  len : t.length ≤ 100000
  vs : ∀ n ∈ t, n.v ∈ (mapL l).vs
  nd : (t.map Nd.v).Nodup
theorem tr_of {l : List Ls} (h : Few l) {v : Vt} (hv : v ∈ (mapL l).vs) : Tr l v (refTree (mapL l) v) := by
  have hr : refTree (mapL l) v = treeN soon (mapL l).es (mapL l).vs.length [rootN v] := by
    unfold refTree
    rw [List.any_eq_true.2 ⟨v, hv, decide_eq_true rfl⟩]
  have hl := refTree_len (mapL l) v
  have := map_vs h
  obtain ⟨h1, ⟨r, h2⟩, h3, h4, h5⟩ := tree_end (bt := soon) (es := (mapL l).es) hv (fun e he => (map_to he).1)
  rw [← hr] at h1 h2 h3 h4 h5
  exact ⟨h1, by rw [h2]; rfl, h3, by omega, h4, h5⟩
theorem Tr.zero {l : List Ls} {v : Vt} {t : List Nd} (h : Tr l v t) : ∀ n, t[0]? = some n → n.c = 0 := fun n hn => by
  rw [h.hd] at hn; cases hn; rfl
theorem Tr.pos {l : List Ls} {v : Vt} {t : List Nd} (h : Tr l v t) : 0 < t.length := (List.getElem?_eq_some_iff.1 h.hd).1
theorem Tr.cost {l : List Ls} {v : Vt} {t : List Nd} (h : Tr l v t) (hc : ∀ e ∈ (mapL l).es, 0 ≤ e.c ∧ e.c ≤ 1000000) {j : Nat} {n : Nd} (hn : t[j]? = some n) : 0 ≤ n.c ∧ n.c ≤ 100000000000 := by
  obtain ⟨h1, h2⟩ := h.gr.cost (C := 1000000) h.zero h.len (by omega) hc j n hn
  have := (List.getElem?_eq_some_iff.1 hn).1
  have := h.len
  omega
end Go.Proofs.Ytmocggibcniggaa.Kt
namespace Go.Proofs.Ytmocggibcniggaa.Kt
open Go Kw Go.Proofs
attribute [local irreducible] Kw.GI Kw.GR Kw.FnR Kw.FnX Kw.FnI
set_option maxHeartbeats 16000000
set_option maxRecDepth 100000
/-! ### the first hop towards a Node -/
/-- Each Node but the first has its parent ahead of it. -/
structure Tre (t : List Nd) : Prop where
  root : ∀ n, t[0]? = some n → n.p = -1
  up : ∀ (j : Nat) n, 0 < j → t[j]? = some n → ∃ p : Nat, n.p = p ∧ p < j
theorem Tr.tre {l : List Ls} {v : Vt} {t : List Nd} (h : Tr l v t) : Tre t where
  root := fun n hn => by rw [h.hd] at hn; cases hn; rfl
  up := fun j n hj hn => by
    obtain ⟨e, _, p, x, hp, _, _, _, hnp, _⟩ := h.gr.edge (by omega) hn
    exact ⟨p, hnp, hp⟩
theorem tre_nil : Tre [] := ⟨fun n h => (nomatch h), fun j n _ h => by rw [List.getElem?_nil] at h; cases h⟩
def par (t : List Nd) (i : Nat) : Nat := ((t.getD i zNd).p).toNat
def anc (t : List Nd) (i : Nat) : Nat → Nat
  | 0 => i
  | m + 1 => par t (anc t i m)
def dep (t : List Nd) : Nat → Nat → Nat
  | 0, _ => 0
  | f + 1, i => if i = 0 then 0 else dep t f (par t i) + 1
/-- The first hop: the own address, who is next. -/
def hopF (t : List Nd) (i : Nat) : Int × Int :=
  if dep t i i = 0 then (0, 0) else
  if (t.getD (anc t i (dep t i i - 1)) zNd).v.k = 1 then ((t.getD (anc t i (dep t i i - 1)) zNd).d, (t.getD (anc t i (dep t i i - 1)) zNd).v.i) else
  if dep t i i = 1 then ((t.getD (anc t i (dep t i i - 1)) zNd).d, 0) else ((t.getD (anc t i (dep t i i - 1)) zNd).d, (t.getD (anc t i (dep t i i - 2)) zNd).d)
section
variable {t : List Nd} {i : Nat}
theorem par_at (h : Tre t) (hi : 0 < i) {n : Nd} (hn : t[i]? = some n) : n.p = par t i ∧ par t i < i := by
  obtain ⟨p, h1, h2⟩ := h.up i n hi hn
  have : par t i = p := by unfold par; rw [List.getD_eq_getElem?_getD, hn]; show n.p.toNat = p; rw [h1, Int.toNat_natCast]
  rw [this]
  exact ⟨h1, h2⟩
theorem anc_par (m : Nat) : anc t (par t i) m = anc t i (m + 1) := by
  induction m with
  | zero => rfl
  | succ m ih => show par t (anc t (par t i) m) = par t (anc t i (m + 1)); rw [ih]
theorem dep_spec (h : Tre t) : ∀ {f i : Nat}, i ≤ f → i < t.length → anc t i (dep t f i) = 0 ∧ ∀ m, m < dep t f i → 0 < anc t i m
  | 0, i, hf, _ => ⟨by have : i = 0 := by omega
                       subst this; rfl, fun m hm => by unfold dep at hm; omega⟩
  | f + 1, i, hf, hi => by
    unfold dep
    by_cases h0 : i = 0
    · rw [if_pos h0]
      exact ⟨h0, fun m hm => by omega⟩
    · rw [if_neg h0]
      obtain ⟨n, hn⟩ : ∃ n, t[i]? = some n := ⟨_, List.getElem?_eq_getElem hi⟩
      have hp := (par_at h (by omega) hn).2
      obtain ⟨h1, h2⟩ := dep_spec h (f := f) (i := par t i) (by omega) (by omega)
      refine ⟨by rw [← anc_par]; exact h1, fun m hm => ?_⟩
      cases m with
      | zero => show 0 < i; omega
      | succ m => rw [← anc_par]; exact h2 m (by omega)
end
abbrev RHop (x : Int × Int) : AV → Sp → Prop := fun r S => r = .tup [I x.1, I x.2] ∧ S = []
abbrev wayL (t : List Nd) (i m : Nat) : List Int := (List.range m).map (fun u => ((anc t i u : Nat) : Int))
end Go.Proofs.Ytmocggibcniggaa.Kt
namespace Go.Proofs.Ytmocggibcniggaa.Kt
open Go Kw Go.Proofs
attribute [local irreducible] Kw.GI Kw.GR Kw.FnR Kw.FnX Kw.FnI
set_option maxHeartbeats 8000000
set_option maxRecDepth 100000
def fstA (P : Pt → Bool) (l : List Pt) : Int := match l.find? P with
  | some p => p.a
  | none => 0
theorem fstA_at {P : Pt → Bool} {l : List Pt} {j : Nat} {x : Pt} (hn : ∀ (i : Nat) (y : Pt), i < j → l[i]? = some y → P y = false) (hj : l[j]? = some x) (hx : P x = true) : fstA P l = x.a := by
  have : l.find? P = some x := by
    induction l generalizing j with
    | nil => cases hj
    | cons y l ih =>
      cases j with
      | zero =>
        cases hj
        rw [List.find?_cons, hx]
      | succ j =>
        have := hn 0 y (by omega) rfl
        rw [List.find?_cons, this]
        exact ih (j := j) (fun i z hi hz => hn (i + 1) z (by omega) (by simpa using hz)) (by simpa using hj)
  unfold fstA
  rw [this]
theorem fstA_no {P : Pt → Bool} {l : List Pt} (hn : ∀ (i : Nat) (y : Pt), l[i]? = some y → P y = false) : fstA P l = 0 := by
  have : l.find? P = none := by
    rw [List.find?_eq_none]
    intro x hx
    obtain ⟨i, hi⟩ := List.mem_iff_getElem?.1 hx
    rw [hn i x hi]
    decide
  unfold fstA
  rw [this]
def portF (l : List Pt) (a : Int) : Int := fstA (fun p => inP a p.a p.b) l
theorem port_ok (l : List Pt) (a : Int) (hl : l.length < 1000000) : FnR Try.prog 88 [fsPt l, I a] (RI (portF l a)) := by
  refine fnR_intro (T := TT) (n := 25) Try.func88 rfl rfl rfl (fun w Z => ?_)
  (repeat (first | refine r_end ?_ | (refine r_op ?_; refine r_pure hT rfl rfl rfl rfl rfl rfl ?_) | refine gi_seq ?_ | refine gi_plain ?_ | refine gi_block ?_))
  refine gi_thaw 7 rfl ?_
  refine gi_loop (σ := Nat) (fun s => [(9, I (s : Int)), (8, I (l.length : Int)), (7, rsPt l), (1, I a)]) (fun _ => []) (fun _ => []) (fun s => s ≤ l.length ∧ ∀ (i : Nat) (y : Pt), i < s → l[i]? = some y → inP a y.a y.b = false) (fun s => l.length - s) 0 ⟨Nat.zero_le _, fun i _ h => absurd h (Nat.not_lt_zero _)⟩ ⟨rfl, by show some (I ((l.map Pt.row).length : Nat)) = _; rw [List.length_map], rfl, rfl, trivial⟩ trivial trivial (fun _ => rfl) (fun j hj next => ?_)
  obtain ⟨hj, hn⟩ := hj
  (repeat (first | refine r_end ?_ | (refine r_op ?_; refine r_pure hT rfl rfl rfl rfl rfl rfl ?_) | refine gi_seq ?_ | refine gi_plain ?_))
  refine gi_lt rfl (fun h3 => ?_) (fun h3 => ?_)
  · have hjl : j < l.length := by omega
    obtain ⟨x, hx⟩ : ∃ x, l[j]? = some x := ⟨_, List.getElem?_eq_getElem hjl⟩
    (repeat (first | refine gi_seq ?_ | refine gi_plain ?_ | refine gi_skip ?_ | refine gi_block ?_))
    refine r_idx (row := x.row) hT rfl rfl rfl rfl rfl rfl rfl rfl rfl rfl rfl rfl (by omega) (by simp [hx]) ?_
    (repeat (first | refine r_end ?_ | (refine r_op ?_; first | refine r_pure hT rfl rfl rfl rfl rfl rfl ?_ | refine r_load hT rfl rfl rfl rfl rfl rfl rfl rfl rfl ?_ | refine r_store hT rfl rfl rfl rfl rfl rfl rfl rfl rfl rfl ?_ | refine r_alloc hT rfl rfl rfl rfl rfl rfl rfl rfl rfl ?_) | refine gi_seq ?_ | refine gi_plain ?_))
    refine r_call (In_ok a x.a x.b) rfl rfl rfl rfl rfl rfl rfl rfl Try.func48 rfl rfl rfl pB ?_
    rintro r S1 ⟨rfl, rfl⟩
    (repeat (refine r_end ?_))
    refine gi_cond rfl (fun h4 => ?_) (fun h4 => ?_)
    · (repeat (first | refine r_end ?_ | (refine r_op ?_; first | refine r_pure hT rfl rfl rfl rfl rfl rfl ?_ | refine r_load hT rfl rfl rfl rfl rfl rfl rfl rfl rfl ?_) | refine gi_seq ?_ | refine gi_plain ?_))
      refine gi_retW hT Try.func88 rfl rfl [] rfl rfl rfl rfl ?_
      exact ⟨by rw [show portF l a = x.a from fstA_at hn hx h4], rfl⟩
    · (repeat (first | refine r_end ?_ | (refine r_op ?_; refine r_pure hT rfl rfl rfl rfl rfl rfl ?_) | refine gi_plain ?_ | refine gi_skip ?_ | refine gi_inBlock ?_))
      refine next (j + 1) _ _ _ ⟨hjl, fun i y hi hy => ?_⟩ (by omega) ⟨?_, rfl, rfl, rfl, trivial⟩ trivial trivial
      · rcases Nat.lt_succ_iff_lt_or_eq.1 hi with hi | rfl
        · exact hn i y hi hy
        · rw [hx] at hy; cases hy; exact h4
      · show some (I (wr .i64 ((j : Int) + 1))) = _
        rw [wr_i64 (by omega) (by omega)]
        simp
  · (repeat (first | refine r_end ?_ | (refine r_op ?_; refine r_pure hT rfl rfl rfl rfl rfl rfl ?_) | refine gi_seq ?_ | refine gi_plain ?_ | refine gi_exit rfl ?_))
    refine gi_retW hT Try.func88 rfl rfl [] rfl rfl rfl rfl ?_
    exact ⟨by rw [show portF l a = 0 from fstA_no (fun i y hy => hn i y (by have := (List.getElem?_eq_some_iff.1 hy).1; omega) hy)], rfl⟩
def upR (pf bt : Int) (p : Pt) : Bool := eqB p.b bt && eqB (pnetF p.a bt) pf
def upF (t : List Nd) (n : Nd) (l : List Pt) (pf bt : Int) : Int := match ltB n.p 0 with
  | true => fstA (upR pf bt) l
  | false => (match eqB (t.getD n.p.toNat zNd).v.k 1 with
    | true => portF l n.d
    | false => n.d)
theorem up_ok (t : List Nd) (hT0 : Tre t) (a : Nat) (n : Nd) (hn : t[a]? = some n) (l : List Pt) (hl : l.length < 1000000) (pf bt : Int) : FnR Try.prog 71 [rsNd t, I (a : Int), fsPt l, I pf, I bt] (RI (upF t n l pf bt)) := by
  have ht : upF t n l pf bt = upF t n l pf bt := rfl
  conv at ht => rhs; unfold upF
  refine fnR_intro (T := TT) (n := 61) Try.func71 rfl rfl rfl (fun w Z => ?_)
  (repeat (first | refine r_end ?_ | (refine r_op ?_; refine r_pure hT rfl rfl rfl rfl rfl rfl ?_) | refine gi_seq ?_ | refine gi_plain ?_))
  refine r_idx (row := n.row) hT rfl rfl rfl rfl rfl rfl rfl rfl rfl rfl rfl rfl (by omega) (by simp [hn]) ?_
  (repeat (first | refine r_end ?_ | (refine r_op ?_; first | refine r_pure hT rfl rfl rfl rfl rfl rfl ?_ | refine r_load hT rfl rfl rfl rfl rfl rfl rfl rfl rfl ?_ | refine r_store hT rfl rfl rfl rfl rfl rfl rfl rfl rfl rfl ?_ | refine r_alloc hT rfl rfl rfl rfl rfl rfl rfl rfl rfl ?_) | refine gi_seq ?_ | refine gi_plain ?_ | refine gi_block ?_))
  refine gi_cond rfl (fun c1 => ?_) (fun c1 => ?_)
  · rw [c1] at ht
    (repeat (first | refine r_end ?_ | (refine r_op ?_; refine r_pure hT rfl rfl rfl rfl rfl rfl ?_) | refine gi_seq ?_ | refine gi_plain ?_ | refine gi_block ?_))
    refine gi_thaw 22 rfl ?_
    refine gi_loop (σ := Nat) (fun s => [(24, I (s : Int)), (23, I (l.length : Int)), (22, rsPt l), (3, I pf), (4, I bt)]) (fun _ => []) (fun _ => []) (fun s => s ≤ l.length ∧ ∀ (i : Nat) (y : Pt), i < s → l[i]? = some y → upR pf bt y = false) (fun s => l.length - s) 0 ⟨Nat.zero_le _, fun i _ h => absurd h (Nat.not_lt_zero _)⟩ ⟨rfl, by show some (I ((l.map Pt.row).length : Nat)) = _; rw [List.length_map], rfl, rfl, rfl, trivial⟩ trivial trivial (fun _ => rfl) (fun j hj next => ?_)
    obtain ⟨hj, hno⟩ := hj
    (repeat (first | refine r_end ?_ | (refine r_op ?_; refine r_pure hT rfl rfl rfl rfl rfl rfl ?_) | refine gi_seq ?_ | refine gi_plain ?_))
    refine gi_lt rfl (fun h3 => ?_) (fun h3 => ?_)
    · have hjl : j < l.length := by omega
      obtain ⟨x, hx⟩ : ∃ x, l[j]? = some x := ⟨_, List.getElem?_eq_getElem hjl⟩
      have on : upR pf bt x = false → ∀ F1 H1 S1, SubF [(24, I (wr .i64 ((j : Int) + 1))), (23, I (l.length : Int)), (22, rsPt l), (3, I pf), (4, I bt)] F1 → SubH [] H1 → SubS [] S1 → GI _ _ F1 H1 S1 := fun h4 F1 H1 S1 hF hH hS => by
        refine next (j + 1) F1 H1 S1 ⟨hjl, fun i y hi hy => ?_⟩ (by omega) ?_ hH hS
        · rcases Nat.lt_succ_iff_lt_or_eq.1 hi with hi | rfl
          · exact hno i y hi hy
          · rw [hx] at hy; cases hy; exact h4
        · rw [wr_i64 (by omega) (by omega)] at hF
          simpa using hF
      clear next
      have hu : upR pf bt x = (eqB x.b bt && eqB (pnetF x.a bt) pf) := rfl
      (repeat (first | refine gi_seq ?_ | refine gi_plain ?_ | refine gi_skip ?_ | refine gi_block ?_))
      refine r_idx (row := x.row) hT rfl rfl rfl rfl rfl rfl rfl rfl rfl rfl rfl rfl (by omega) (by simp [hx]) ?_
      (repeat (first | refine r_end ?_ | (refine r_op ?_; first | refine r_pure hT rfl rfl rfl rfl rfl rfl ?_ | refine r_load hT rfl rfl rfl rfl rfl rfl rfl rfl rfl ?_ | refine r_store hT rfl rfl rfl rfl rfl rfl rfl rfl rfl rfl ?_ | refine r_alloc hT rfl rfl rfl rfl rfl rfl rfl rfl rfl ?_) | refine gi_seq ?_ | refine gi_plain ?_))
      refine r_case (d := 33) rfl (fun c2 => ?_) (fun c2 => ?_)
      · rw [c2] at hu
        (repeat ((refine r_op ?_; first | refine r_pure hT rfl rfl rfl rfl rfl rfl ?_ | refine r_load hT rfl rfl rfl rfl rfl rfl rfl rfl rfl ?_)))
        refine r_call (pNet_ok x.a bt) rfl rfl rfl rfl rfl rfl rfl rfl Try.func78 rfl rfl rfl pI ?_
        rintro r S1 ⟨rfl, rfl⟩
        (repeat (first | refine r_end ?_ | (refine r_op ?_; refine r_pure hT rfl rfl rfl rfl rfl rfl ?_)))
        refine gi_cond rfl (fun c3 => ?_) (fun c3 => ?_)
        · rw [c3] at hu
          (repeat (first | refine r_end ?_ | (refine r_op ?_; first | refine r_pure hT rfl rfl rfl rfl rfl rfl ?_ | refine r_load hT rfl rfl rfl rfl rfl rfl rfl rfl rfl ?_) | refine gi_seq ?_ | refine gi_plain ?_))
          refine gi_retW hT Try.func71 rfl rfl [] rfl rfl rfl rfl ?_
          exact ⟨by rw [ht, show fstA (upR pf bt) l = x.a from fstA_at hno hx hu], rfl⟩
        · rw [c3] at hu
          (repeat (first | refine r_end ?_ | (refine r_op ?_; refine r_pure hT rfl rfl rfl rfl rfl rfl ?_) | refine gi_plain ?_ | refine gi_skip ?_ | refine gi_inBlock ?_))
          exact on hu _ _ _ ⟨rfl, rfl, rfl, rfl, rfl, trivial⟩ trivial trivial
      · rw [c2] at hu
        (repeat (first | refine r_end ?_ | (refine r_op ?_; first | refine r_pure hT rfl rfl rfl rfl rfl rfl ?_ | refine r_off rfl rfl rfl rfl rfl ?_) | refine gi_plain ?_ | refine gi_skip ?_ | refine gi_inBlock ?_ | (refine gi_cnd ?_; first | refine gi_true rfl ?_ | refine gi_false rfl ?_)))
        exact on hu _ _ _ ⟨rfl, rfl, rfl, rfl, rfl, trivial⟩ trivial trivial
    · (repeat (first | refine r_end ?_ | (refine r_op ?_; refine r_pure hT rfl rfl rfl rfl rfl rfl ?_) | refine gi_seq ?_ | refine gi_plain ?_ | refine gi_exit rfl ?_))
      refine gi_retW hT Try.func71 rfl rfl [] rfl rfl rfl rfl ?_
      exact ⟨by rw [ht, show fstA (upR pf bt) l = 0 from fstA_no (fun i y hy => hno i y (by have := (List.getElem?_eq_some_iff.1 hy).1; omega) hy)], rfl⟩
  · rw [c1] at ht
    rw [ltB_eq] at c1
    have c1 := of_decide_eq_false c1
    have ha : 0 < a := by
      rcases Nat.eq_zero_or_pos a with rfl | h
      · have := hT0.root n hn; omega
      · exact h
    obtain ⟨q, hq, hqa⟩ := hT0.up a n ha hn
    have hal := (List.getElem?_eq_some_iff.1 hn).1
    obtain ⟨m, hm⟩ : ∃ m, t[q]? = some m := ⟨_, List.getElem?_eq_getElem (by omega)⟩
    rw [hq, Int.toNat_natCast, List.getD_eq_getElem?_getD, hm] at ht
    have ht : upF t n l pf bt = match eqB m.v.k 1 with
      | true => portF l n.d
      | false => n.d := ht
    (repeat (first | (refine r_op ?_; first | refine r_pure hT rfl rfl rfl rfl rfl rfl ?_ | refine r_load hT rfl rfl rfl rfl rfl rfl rfl rfl rfl ?_) | refine gi_seq ?_ | refine gi_plain ?_))
    refine r_turn (d := 49) (y := I (q : Int)) rfl (by rw [hq]) ?_
    refine r_idx (row := m.row) hT rfl rfl rfl rfl rfl rfl rfl rfl rfl rfl rfl rfl (by omega) (by simp [hm]) ?_
    (repeat (first | refine r_end ?_ | (refine r_op ?_; first | refine r_pure hT rfl rfl rfl rfl rfl rfl ?_ | refine r_load hT rfl rfl rfl rfl rfl rfl rfl rfl rfl ?_)))
    refine gi_cond rfl (fun c2 => ?_) (fun c2 => ?_)
    · rw [c2] at ht
      (repeat (first | (refine r_op ?_; first | refine r_pure hT rfl rfl rfl rfl rfl rfl ?_ | refine r_load hT rfl rfl rfl rfl rfl rfl rfl rfl rfl ?_) | refine gi_seq ?_ | refine gi_plain ?_))
      refine r_call (port_ok l n.d hl) rfl rfl rfl rfl rfl rfl rfl rfl Try.func88 rfl rfl rfl pI ?_
      rintro r S1 ⟨rfl, rfl⟩
      (repeat (first | refine r_end ?_ | (refine r_op ?_; refine r_pure hT rfl rfl rfl rfl rfl rfl ?_)))
      refine gi_retW hT Try.func71 rfl rfl [] rfl rfl rfl rfl ?_
      exact ⟨by rw [ht], rfl⟩
    · rw [c2] at ht
      (repeat (first | refine r_end ?_ | (refine r_op ?_; first | refine r_pure hT rfl rfl rfl rfl rfl rfl ?_ | refine r_load hT rfl rfl rfl rfl rfl rfl rfl rfl rfl ?_) | refine gi_seq ?_ | refine gi_plain ?_ | refine gi_skip ?_ | refine gi_inBlock ?_))
      refine gi_retW hT Try.func71 rfl rfl [] rfl rfl rfl rfl ?_
      exact ⟨by rw [ht], rfl⟩
end Go.Proofs.Ytmocggibcniggaa.Kt
namespace Go.Proofs.Ytmocggibcniggaa.Kt
open Go Kw Go.Proofs Go.Shelf
set_option maxRecDepth 100000
def sortO73_ren : Go.Shelf.Ren := ⟨fun | 6 => 73 | 15 => 92 | 14 => 91 | 28 => 108 | 29 => 109 | 20 => 100 | 21 => 101 | 22 => 102 | 23 => 103 | 24 => 104 | 25 => 105 | 26 => 106 | 27 => 107 | 46 => 111 | 47 => 112 | 48 => 113 | 49 => 114 | 50 => 115 | 57 => 117 | n => n, fun | 22 => 79 | 24 => 90 | 25 => 129 | 3 => 3 | 39 => 76 | 0 => 0 | 53 => 44 | 55 => 164 | 4 => 4 | 46 => 157 | 45 => 156 | 50 => 137 | 5 => 5 | 9 => 9 | 66 => 165 | 70 => 169 | 76 => 171 | 77 => 112 | n => n, fun | n => n⟩
theorem sortO73 : Go.Proofs.SlLaysF0.n6 Try.prog sortO73_ren := {
  mixed := by kernel_rfl
  f6 := ⟨Try.f73.name, by decide, Try.func73.trans (congrArg some (by kernel_rfl))⟩
  f14 := ⟨Try.f91.name, by decide, Try.func91.trans (congrArg some (by kernel_rfl))⟩
  f15 := Try.func92.trans (congrArg some (by kernel_rfl))
  f20 := ⟨Try.f100.name, by decide, Try.func100.trans (congrArg some (by kernel_rfl))⟩
  f21 := ⟨Try.f101.name, by decide, Try.func101.trans (congrArg some (by kernel_rfl))⟩
  f22 := ⟨Try.f102.name, by decide, Try.func102.trans (congrArg some (by kernel_rfl))⟩
  f23 := ⟨Try.f103.name, by decide, Try.func103.trans (congrArg some (by kernel_rfl))⟩
  f24 := ⟨Try.f104.name, by decide, Try.func104.trans (congrArg some (by kernel_rfl))⟩
  f25 := ⟨Try.f105.name, by decide, Try.func105.trans (congrArg some (by kernel_rfl))⟩
  f26 := ⟨Try.f106.name, by decide, Try.func106.trans (congrArg some (by kernel_rfl))⟩
  f27 := ⟨Try.f107.name, by decide, Try.func107.trans (congrArg some (by kernel_rfl))⟩
  f28 := Try.func108.trans (congrArg some (by kernel_rfl))
  f29 := Try.func109.trans (congrArg some (by kernel_rfl))
  f46 := ⟨Try.f111.name, by decide, Try.func111.trans (congrArg some (by kernel_rfl))⟩
  f47 := Try.func112.trans (congrArg some (by kernel_rfl))
  f48 := Try.func113.trans (congrArg some (by kernel_rfl))
  f49 := ⟨Try.f114.name, by decide, Try.func114.trans (congrArg some (by kernel_rfl))⟩
  f50 := ⟨Try.f115.name, by decide, Try.func115.trans (congrArg some (by kernel_rfl))⟩
  f57 := ⟨Try.f117.name, by decide, Try.func117.trans (congrArg some (by kernel_rfl))⟩
  t0 := Try.underlying0
  a0 := Try.isAgg0
  z0 := Try.sizeOf0
  v0 := Try.zeroValue0
  t3 := Try.underlying3
  a3 := Try.isAgg3
  z3 := Try.sizeOf3
  v3 := Try.zeroValue3
  t4 := Try.underlying4
  a4 := Try.isAgg4
  z4 := Try.sizeOf4
  v4 := Try.zeroValue4
  t5 := Try.underlying5
  a5 := Try.isAgg5
  z5 := Try.sizeOf5
  v5 := Try.zeroValue5
  t9 := Try.underlying9
  a9 := Try.isAgg9
  z9 := Try.sizeOf9
  v9 := Try.zeroValue9
  t22 := Try.underlying79
  a22 := Try.isAgg79
  z22 := Try.sizeOf79
  v22 := Try.zeroValue79
  t25 := Try.underlying129
  a25 := Try.isAgg129
  z25 := Try.sizeOf129
  v25 := Try.zeroValue129
  t39 := Try.underlying76
  a39 := Try.isAgg76
  z39 := Try.sizeOf76
  v39 := Try.zeroValue76
  t45 := Try.underlying156
  a45 := Try.isAgg156
  z45 := Try.sizeOf156
  v45 := Try.zeroValue156
  t46 := Try.underlying157
  a46 := Try.isAgg157
  z46 := Try.sizeOf157
  v46 := Try.zeroValue157
  t50 := Try.underlying137
  a50 := Try.isAgg137
  z50 := Try.sizeOf137
  v50 := Try.zeroValue137
  t53 := Try.underlying44
  a53 := Try.isAgg44
  z53 := Try.sizeOf44
  v53 := Try.zeroValue44
  t55 := Try.underlying164
  a55 := Try.isAgg164
  z55 := Try.sizeOf164
  v55 := Try.zeroValue164
  t66 := Try.underlying165
  a66 := Try.isAgg165
  z66 := Try.sizeOf165
  v66 := Try.zeroValue165
  t70 := Try.underlying169
  a70 := Try.isAgg169
  z70 := Try.sizeOf169
  v70 := Try.zeroValue169
  t76 := Try.underlying171
  a76 := Try.isAgg171
  z76 := Try.sizeOf171
  v76 := Try.zeroValue171
  t77 := Try.underlying112
  a77 := Try.isAgg112
  z77 := Try.sizeOf112
  v77 := Try.zeroValue112 }
end Go.Proofs.Ytmocggibcniggaa.Kt
namespace Go.Proofs.Ytmocggibcniggaa.Kt
open Go Kw Go.Proofs Go.Shelf
attribute [local irreducible] Kw.GI Kw.GR Kw.FnR Kw.FnX Kw.FnI
set_option maxHeartbeats 4000000
set_option maxRecDepth 100000
/-! ### where it goes on -/
structure Ot where
  a : Int
  n : Int
  deriving DecidableEq
instance : Inhabited Ot := ⟨⟨0, 0⟩⟩
abbrev Ot.row (x : Ot) : List RV := [.v (.int .i64 x.a), .v (.int .i64 x.n)]
abbrev Ot.av (x : Ot) : AV := .agg [I x.a, I x.n]
abbrev seOt (l : List Ot) : SE := ⟨90, 2, l.map Ot.row, false⟩
abbrev eOt (l : List Ot) : Option SE := some (seOt l)
abbrev rsOt (l : List Ot) : AV := .r (.rs 2 (l.map Ot.row))
abbrev fsOt (l : List Ot) : AV := .r (.fs 2 (l.map Ot.row))
abbrev hOt (x : Ot) : Option (TypeId × List AV) := some (90, [I x.a, I x.n])
def cmpO (x y : Ot) : Int := orL [cmp3 x.a y.a, cmp3 x.n y.n]
def Ot.lt (x y : Ot) : Prop := x.a < y.a ∨ (x.a = y.a ∧ x.n < y.n)
theorem cmpO_lt (x y : Ot) : cmpO x y < 0 ↔ x.lt y := by
  unfold cmpO Ot.lt cmp3
  simp only [orL]
  repeat' split
  all_goals omega
def Ot.enc (x : Ot) : List Value := [.int .i64 x.a, .int .i64 x.n]
theorem swoO : Go.Sort.SWO (Go.Proofs.ltOf cmpO) where
  irrefl x := by unfold Go.Proofs.ltOf; exact decide_eq_false (by rw [cmpO_lt]; unfold Ot.lt; omega)
  trans x y z h1 h2 := by
    unfold Go.Proofs.ltOf at *
    have h1 := of_decide_eq_true h1
    have h2 := of_decide_eq_true h2
    refine decide_eq_true ?_
    rw [cmpO_lt] at *
    unfold Ot.lt at *
    omega
  ntrans x y z h1 h2 := by
    unfold Go.Proofs.ltOf at *
    have h1 := of_decide_eq_false h1
    have h2 := of_decide_eq_false h2
    refine decide_eq_false ?_
    rw [cmpO_lt] at *
    unfold Ot.lt at *
    omega
theorem Ot.hA (E : Env) (w : World) (x : Ot) : C E w x.av (.agg x.enc.toArray) := by
  unfold C
  refine ⟨_, rfl, CL_cons' (C_v_mk rfl) (CL_cons' (C_v_mk rfl) CL_nil'), fun v hv => ?_⟩
  unfold Ot.enc at hv
  simp only [List.mem_cons, List.not_mem_nil, or_false] at hv
  rcases hv with rfl | rfl <;> rfl
theorem cmpO_ok (x y : Ot) : FnR Try.prog 74 [x.av, y.av] (fun r S => r = I (cmpO x y) ∧ S = []) := by
  refine fnR_intro (T := TT) (n := 17) Try.func74 rfl rfl rfl (fun w Z => ?_)
  (repeat (first | refine r_end ?_ | (refine r_op ?_; first | refine r_pure hT rfl rfl rfl rfl rfl rfl ?_ | refine r_box rfl rfl rfl rfl rfl rfl rfl rfl rfl ?_) | refine gi_seq ?_ | refine gi_plain_ne 1 rfl ?_))
  refine gi_drawM [] [(0, .p), (2, .p), (5, .p), (7, .p), (1, .t), (3, .t), (6, .t), (8, .t), (4, .o), (9, .o), (10, .o), (11, .o), (12, .p)] [0, 1, 0, 4, 10, 0, 32, 0, 128, 336, 528, 1536, 4095] [0, 1, 0, 4, 10, 0, 32, 0, 128, 320, 528, 1024, 2048] Kt.hm rfl (by kernel_rfl) (fun w1 K => ?_)
  (repeat ((refine r_op ?_; first | refine r_pure hT rfl rfl rfl rfl rfl rfl ?_ | refine r_load hT rfl rfl rfl rfl rfl rfl rfl rfl rfl ?_)))
  refine r_call (Compare_ok x.a y.a) rfl rfl rfl rfl rfl rfl rfl rfl Try.func66 rfl rfl rfl pI ?_
  rintro r S1 ⟨rfl, rfl⟩
  skip
  refine r_call (Compare_ok x.n y.n) rfl rfl rfl rfl rfl rfl rfl rfl Try.func66 rfl rfl rfl pI ?_
  rintro r S1 ⟨rfl, rfl⟩
  (repeat ((refine r_op ?_; refine r_lit hT rfl rfl rfl rfl rfl rfl rfl rfl rfl rfl rfl rfl rfl ?_)))
  refine r_call (Or_ok [cmp3 x.a y.a, cmp3 x.n y.n] (by show 2 < 1000000; omega)) rfl rfl rfl rfl rfl rfl rfl rfl Try.func65 rfl rfl rfl pI ?_
  rintro r S1 ⟨rfl, rfl⟩
  (repeat (first | refine r_end ?_ | (refine r_op ?_; refine r_pure hT rfl rfl rfl rfl rfl rfl ?_)))
  refine gi_retW hT Try.func74 rfl rfl [] rfl rfl rfl rfl ?_
  exact ⟨rfl, rfl⟩
section
attribute [local semireducible] Kw.FnR Kw.FnX
theorem bitsLen0_ok : FnR Try.prog 92 [.r (.v (.int .u64 0))] (RI 0) := by
  intro w X E us hs hcl
  have h : Calls Try.prog 92 #[.int .u64 0] w fun e w' => e = .returned (.int .i64 (Lib.bitLen (0 : Int).toNat : Nat)) ∧ w' = w := Any.bits_Len (SlLaysF0.n15.bits (P := Try.prog) (ρ := sortO73_ren) { sortO73 with }) 0 w (by decide) (by decide)
  unfold CL at hcl
  obtain ⟨u, r, rfl, hu, hcl⟩ := hcl
  unfold CL at hcl
  subst hcl
  have := C_v hu
  subst this
  refine h.mono fun e w' hh => ?_
  obtain ⟨rfl, rfl⟩ := hh
  exact ⟨_, I 0, [], [], E, rfl, ⟨rfl, rfl, rfl⟩, C_v_mk rfl, hs, Nat.zero_le _⟩
end
abbrev RT0 : AV → Sp → Prop := fun r S => r = .tup [] ∧ S = []
theorem pT0 : ∀ r S1, (r = .tup [] ∧ S1 = []) → plainA r = true ∧ PlainS S1 := by
  rintro r S ⟨rfl, rfl⟩
  exact ⟨rfl, PlainS.nil⟩
abbrev aO : AV := .fn 74 []
theorem ins0_ok : FnR Try.prog 100 [.r (.rs 2 []), I 0, I 0, aO] RT0 := by
  refine fnR_intro (T := TT) (n := 53) Try.func100 rfl rfl rfl (fun w Z => ?_)
  (repeat (first | refine r_end ?_ | (refine r_op ?_; refine r_pure hT rfl rfl rfl rfl rfl rfl ?_) | refine gi_seq ?_ | refine gi_plain ?_ | refine gi_block ?_))
  refine gi_loop0 ?_
  (repeat (first | refine r_end ?_ | (refine r_op ?_; refine r_pure hT rfl rfl rfl rfl rfl rfl ?_) | refine gi_seq ?_ | refine gi_plain ?_))
  refine gi_lt rfl (fun h => ?_) (fun h => ?_)
  · rw [wr_i64 (by decide) (by decide)] at h; omega
  (repeat (refine gi_exit rfl ?_))
  refine gi_finX hT Try.func100 rfl [] [] rfl rfl rfl rfl rfl rfl rfl rfl ?_
  exact ⟨rfl, rfl, rfl⟩
theorem pdq0_ok : FnR Try.prog 91 [.r (.rs 2 []), I 0, I 0, I 0, aO] RT0 := by
  refine fnR_intro (T := TT) (n := 148) Try.func91 rfl rfl rfl (fun w Z => ?_)
  (repeat (first | refine r_end ?_ | (refine r_op ?_; refine r_pure hT rfl rfl rfl rfl rfl rfl ?_) | refine gi_seq ?_ | refine gi_plain ?_ | refine gi_block ?_))
  refine gi_loop0 ?_
  (repeat (first | refine r_end ?_ | (refine r_op ?_; refine r_pure hT rfl rfl rfl rfl rfl rfl ?_) | refine gi_seq ?_ | refine gi_plain ?_ | refine gi_block ?_))
  refine gi_le rfl (fun h => ?_) (fun h => ?_)
  · (repeat (first | (refine r_op ?_; refine r_pure hT rfl rfl rfl rfl rfl rfl ?_) | refine gi_seq ?_ | refine gi_plain ?_))
    refine r_call (ins0_ok) rfl rfl rfl rfl rfl rfl rfl rfl Try.func100 rfl rfl rfl pT0 ?_
    rintro r S1 ⟨rfl, rfl⟩
    (repeat (refine r_end ?_))
    refine gi_retW hT Try.func91 rfl rfl [] rfl rfl rfl rfl ?_
    exact ⟨rfl, rfl⟩
  · rw [wr_i64 (by decide) (by decide)] at h; omega
theorem sort0_ok : FnR Try.prog 73 [.r (.rs 2 []), aO] RT0 := by
  refine fnR_intro (T := TT) (n := 14) Try.func73 rfl rfl rfl (fun w Z => ?_)
  (repeat (first | refine r_end ?_ | (refine r_op ?_; refine r_pure hT rfl rfl rfl rfl rfl rfl ?_) | refine gi_seq ?_ | refine gi_plain ?_))
  refine r_turn (d := 10) (y := .r (.v (.int .u64 0))) rfl (by show AV.r (.v (.int .u64 (wr .u64 ((([] : List (List RV)).length : Nat))))) = _; rw [wr_eq]; rfl) ?_
  refine r_call (bitsLen0_ok) rfl rfl rfl rfl rfl rfl rfl rfl Try.func92 rfl rfl rfl pI ?_
  rintro r S1 ⟨rfl, rfl⟩
  (repeat ((refine r_op ?_; refine r_pure hT rfl rfl rfl rfl rfl rfl ?_)))
  refine r_call (pdq0_ok) rfl rfl rfl rfl rfl rfl rfl rfl Try.func91 rfl rfl rfl pT0 ?_
  rintro r S1 ⟨rfl, rfl⟩
  (repeat (refine r_end ?_))
  refine gi_finX hT Try.func73 rfl [] [] rfl rfl rfl rfl rfl rfl rfl rfl ?_
  exact ⟨rfl, rfl, rfl⟩
def ri : Option RV → Int
  | some (.v (.int _ n)) => n
  | _ => 0
def cfr (a b : List RV) : Int := orL [cmp3 (ri a[0]?) (ri b[0]?), cmp3 (ri a[1]?) (ri b[1]?)]
theorem dec_O {Y Z : Nat → Prop} {w : World} {c : Ot} {vs : List Value} (h : RL Y Z w c.row vs) : c.enc = vs := by
  unfold RL at h
  obtain ⟨u1, r1, rfl, h1, h⟩ := h
  unfold RL at h
  obtain ⟨u2, r2, rfl, h2, h⟩ := h
  unfold RL at h
  subst h
  unfold CR at h1 h2
  rw [h1.1, h2.1]
  rfl
theorem encO_inj {x y : Ot} (h : x.enc = y.enc) : x = y := by
  unfold Ot.enc at h
  simp only [List.cons.injEq, Value.int.injEq, true_and, and_true] at h
  cases x; cases y
  simp only at h
  rw [h.1, h.2]
theorem oneO (x : Ot) : ∀ v ∈ x.enc, v.oneCell' = true := fun v hv => by
  unfold Ot.enc at hv
  simp only [List.mem_cons, List.not_mem_nil, or_false] at hv
  rcases hv with rfl | rfl <;> rfl
theorem hsortO (blk cap : Nat) (d : Array Ot) (w : World) (h1 : CmpLays Try.prog 74 #[] Ot.enc 2 cmpO blk 0 d.size w) (h2 : Go.Sort.HoldsK Ot.enc 2 w blk 0 d) (h3 : blk < w.heap.size) (h4 : d.size < 4611686018427387904) :
    Calls Try.prog 73 #[.slice (some ⟨blk, 0, none⟩) d.size cap, .func (.func 74) #[] #[]] w fun e w' => e = .returned (.tuple #[]) ∧ ∃ d' n os, Go.Sort.PermIn 0 d.size d d' ∧ Go.Sort.SortedIn (Go.Proofs.ltOf cmpO) 0 d.size d' ∧ w' = sortWorldK Ot.enc 2 w blk 0 n d' os :=
  AnyQ.slices_SortFunc sortO73 2 (fun w => Try.isAgg90 w) (fun w => Try.sizeOf90 w) Ot.enc (fun _ => rfl) oneO cmpO swoO 74 #[] blk 0 cap d w (enters_of Try.func74 (by kernel_rfl) rfl) h1 h2 h3 h4
theorem hdecO (l : List Ot) (Y Z : Nat → Prop) (w : World) : ∀ row ∈ l.map Ot.row, ∀ vs, RL Y Z w row vs → ∃ x : Ot, x.enc = vs := fun row hr vs h => by
  obtain ⟨c, _, rfl⟩ := List.mem_map.1 hr
  exact ⟨c, dec_O h⟩
theorem hcfO (l : List Ot) (Y Z : Nat → Prop) (w : World) (r1 r2 : List RV) (x1 x2 : Ot) (hr1 : r1 ∈ l.map Ot.row) (hr2 : r2 ∈ l.map Ot.row) (e1 : RL Y Z w r1 x1.enc) (e2 : RL Y Z w r2 x2.enc) : cmpO x1 x2 = cfr r1 r2 := by
  obtain ⟨c1, _, rfl⟩ := List.mem_map.1 hr1
  obtain ⟨c2, _, rfl⟩ := List.mem_map.1 hr2
  rw [← encO_inj (dec_O e1), ← encO_inj (dec_O e2)]
  rfl
def SrtO (l : List Ot) : Prop := ∀ (i j : Nat) (a b : Ot), i < j → l[i]? = some a → l[j]? = some b → ¬ b.lt a
theorem sortedO_of {l : List Ot} {L' : List (List RV)} (h1 : L'.Perm (l.map Ot.row)) (h2 : ∀ (i j : Nat) (a b : List RV), i < j → L'[i]? = some a → L'[j]? = some b → ¬ cfr b a < 0) : ∃ l' : List Ot, L' = l'.map Ot.row ∧ l'.Perm l ∧ SrtO l' := by
  obtain ⟨l', k1, k2⟩ := perm_map (F := Ot.row) h1 l rfl
  subst k1
  refine ⟨l', rfl, k2, fun i j a b hij ha hb => ?_⟩
  have := h2 i j a.row b.row hij (by rw [List.getElem?_map, ha]; rfl) (by rw [List.getElem?_map, hb]; rfl)
  have e : cfr b.row a.row = cmpO b a := rfl
  rw [e, cmpO_lt] at this
  exact this
theorem SrtO.nil : SrtO [] := fun i j a b _ h _ => by simp at h
theorem r_sortO {c : Ctx} {ops : Array Oper} {kz : Kz} {q st : Option St} {i : Nat} {sch : List (Nat × Md)} {F : Fr} {H : Hp} {S : Sp} {o : Oper} {cl : Call} {dd : Option Nat} {kn : Nat} (l : List Ot) (hP : c.P = Try.prog) (hl : l.length < 100000000) (hne : l ≠ []) (hi : ops[i]? = some o) (hop : o.op = .call cl) (hd : o.dst = dd) (hn : dOk dd c.n = true) (hg : gOk ops F o.guard = some true)
    (ht : target F cl = some (73, [.sl kn, aO])) (hS : S[kn]? = some (eOt l)) (h : ∀ l', l'.Perm l → SrtO l' → GR c ops kz q none sch (putD dd (.tup []) F) H (S.set kn (eOt l'))) : GR c ops kz q st ((i, .l) :: sch) F H S := by
  cases c with
  | mk P T f fn n w0 X R =>
  have hP' : P = Try.prog := hP
  subst hP'
  have k1 : ∀ x : Ot, x.enc.length = 2 := fun _ => rfl
  have k2 : 0 < 2 := by decide
  refine r_sort (kn := kn) (sz := 2) (enc := Ot.enc) (cf := cmpO) (f := 73) (g := 74) (e := 90) k1 k2 Ot.av Ot.hA cmpO_ok hsortO (hdecO l) cfr (hcfO l) (by simpa using hne) (by rw [List.length_map]; omega) hi hop hd hn hg ht Try.func73 rfl rfl hS (fun L' m1 m2 => by
    obtain ⟨l', rfl, h1, h2⟩ := sortedO_of m1 m2
    exact h l' h1 h2)
end Go.Proofs.Ytmocggibcniggaa.Kt
namespace Go.Proofs.Ytmocggibcniggaa.Kt
open Go Kw Go.Proofs
set_option maxHeartbeats 4000000
set_option maxRecDepth 100000
/-! ### what is told of where it goes on -/
def kpB (up : Int) (L : List Ot) (i : Nat) (x : Ot) : Bool := notB (eqB x.a up) && (eqB (i : Int) 0 || notB (eqB (L.getD (i - 1) ⟨0, 0⟩).a x.a))
def uqN (up : Int) (L : List Ot) : Nat → List Ot
  | 0 => []
  | i + 1 => uqN up L i ++ (match L[i]? with
    | some x => (match kpB up L i x with
      | true => [x]
      | false => [])
    | none => [])
theorem uqN_step {up : Int} {L : List Ot} {i : Nat} {x : Ot} (hx : L[i]? = some x) : uqN up L (i + 1) = uqN up L i ++ (match kpB up L i x with
    | true => [x]
    | false => []) := by
  rw [uqN, hx]
theorem uqN_len (up : Int) (L : List Ot) : ∀ i, (uqN up L i).length ≤ i
  | 0 => Nat.le_refl _
  | i + 1 => by
    have := uqN_len up L i
    unfold uqN
    rw [List.length_append]
    have : (match L[i]? with
      | some x => (match kpB up L i x with
        | true => [x]
        | false => [])
      | none => []).length ≤ 1 := by
      split
      · split <;> simp
      · simp
    omega
theorem uqN_mem {up : Int} {L : List Ot} {x : Ot} : ∀ {k : Nat}, x ∈ uqN up L k ↔ ∃ i, i < k ∧ L[i]? = some x ∧ kpB up L i x = true
  | 0 => ⟨fun h => (nomatch h), fun ⟨i, h, _⟩ => absurd h (Nat.not_lt_zero _)⟩
  | k + 1 => by
    unfold uqN
    rw [List.mem_append, uqN_mem (k := k)]
    constructor
    · rintro (⟨i, h1, h2, h3⟩ | h)
      · exact ⟨i, by omega, h2, h3⟩
      · split at h
        · rename_i y hy
          split at h
          · rename_i hk
            rw [List.mem_singleton.1 h]
            exact ⟨k, by omega, hy, hk⟩
          · cases h
        · cases h
    · rintro ⟨i, h1, h2, h3⟩
      rcases Nat.lt_succ_iff_lt_or_eq.1 h1 with h1 | rfl
      · exact .inl ⟨i, h1, h2, h3⟩
      · right
        rw [h2]
        simp only
        rw [h3]
        exact List.mem_singleton.2 rfl
theorem SrtO.le {L : List Ot} (h : SrtO L) {i j : Nat} {a b : Ot} (hij : i ≤ j) (ha : L[i]? = some a) (hb : L[j]? = some b) : a.a ≤ b.a ∧ (a.a = b.a → a.n ≤ b.n) := by
  rcases Nat.lt_or_eq_of_le hij with hij | rfl
  · have := h i j a b hij ha hb
    unfold Ot.lt at this
    omega
  · rw [ha] at hb; cases hb; exact ⟨Int.le_refl _, fun _ => Int.le_refl _⟩
theorem kpB_iff {up : Int} {L : List Ot} {i : Nat} {x : Ot} : kpB up L i x = true ↔ x.a ≠ up ∧ (i = 0 ∨ (L.getD (i - 1) ⟨0, 0⟩).a ≠ x.a) := by
  unfold kpB
  rw [Bool.and_eq_true, Bool.or_eq_true, notB_eq, notB_eq, eqB_eq, eqB_eq, eqB_eq]
  simp
/-- What an entry's list is to be like: of the least Needs, each address once, not the one it comes from. -/
structure EntO (O : List Ot) (up : Int) (outs : List Ot) : Prop where
  pw : outs.Pairwise (fun a b => a.a < b.a)
  mem : ∀ x, x ∈ outs ↔ x ∈ O ∧ x.a ≠ up ∧ ∀ y ∈ O, y.a = x.a → x.n ≤ y.n
theorem uq_pw {up : Int} {L : List Ot} (h : SrtO L) : ∀ {k : Nat}, (uqN up L k).Pairwise (fun a b => a.a < b.a)
  | 0 => List.Pairwise.nil
  | k + 1 => by
    have ih := uq_pw (up := up) h (k := k)
    unfold uqN
    rw [List.pairwise_append]
    refine ⟨ih, ?_, fun a ha b hb => ?_⟩
    · split
      · split <;> simp
      · simp
    · split at hb
      · rename_i y hy
        split at hb
        · rename_i hk
          rw [List.mem_singleton.1 hb]
          obtain ⟨i, h1, h2, _⟩ := uqN_mem.1 ha
          obtain ⟨_, h4⟩ := kpB_iff.1 hk
          have hkl := (List.getElem?_eq_some_iff.1 hy).1
          obtain ⟨z, hz⟩ : ∃ z, L[k - 1]? = some z := ⟨_, List.getElem?_eq_getElem (by omega)⟩
          have e : L.getD (k - 1) ⟨0, 0⟩ = z := by rw [List.getD_eq_getElem?_getD, hz]; rfl
          rw [e] at h4
          have h5 := (h.le (show i ≤ k - 1 by omega) h2 hz).1
          have h6 := (h.le (show k - 1 ≤ k by omega) hz hy).1
          omega
        · cases hb
      · cases hb
theorem uq_ent {O L : List Ot} (hp : L.Perm O) (h : SrtO L) (up : Int) : EntO O up (uqN up L L.length) := by
  refine ⟨uq_pw h, fun x => ?_⟩
  rw [uqN_mem]
  constructor
  · rintro ⟨i, hi, hx, hk⟩
    obtain ⟨h1, h2⟩ := kpB_iff.1 hk
    refine ⟨hp.mem_iff.1 (List.mem_of_getElem? hx), h1, fun y hy hya => ?_⟩
    obtain ⟨j, hj⟩ := List.mem_iff_getElem?.1 (hp.mem_iff.2 hy)
    rcases Nat.lt_or_ge j i with hji | hij
    · obtain ⟨z, hz⟩ : ∃ z, L[i - 1]? = some z := ⟨_, List.getElem?_eq_getElem (by omega)⟩
      have e : L.getD (i - 1) ⟨0, 0⟩ = z := by rw [List.getD_eq_getElem?_getD, hz]; rfl
      rw [e] at h2
      have h5 := (h.le (show j ≤ i - 1 by omega) hj hz).1
      have h6 := (h.le (show i - 1 ≤ i by omega) hz hx).1
      omega
    · exact (h.le hij hx hj).2 hya.symm
  · rintro ⟨h1, h2, h3⟩
    obtain ⟨j, hj⟩ := List.mem_iff_getElem?.1 (hp.mem_iff.2 h1)
    -- the first of its address
    have : ∃ i, i ≤ j ∧ ∃ y, L[i]? = some y ∧ y.a = x.a ∧ ∀ k z, k < i → L[k]? = some z → z.a ≠ x.a := by
      clear h3
      induction j using Nat.strongRecOn generalizing x with
      | _ j ih =>
        by_cases hc : ∃ k, k < j ∧ ∃ z, L[k]? = some z ∧ z.a = x.a
        · obtain ⟨k, hk, z, hz, hza⟩ := hc
          obtain ⟨i, h4, y, h5, h6, h7⟩ := ih k hk (x := z) (hp.mem_iff.1 (List.mem_of_getElem? hz)) (by rw [hza]; exact h2) hz
          exact ⟨i, by omega, y, h5, by rw [h6, hza], fun k' z' a b => by rw [← hza]; exact h7 k' z' a b⟩
        · exact ⟨j, Nat.le_refl _, x, hj, rfl, fun k z hk hz e => hc ⟨k, hk, z, hz, e⟩⟩
    obtain ⟨i, hij, y, hy, hya, hno⟩ := this
    have h4 := (h.le hij hy hj).2 hya
    have h5 := h3 y (hp.mem_iff.1 (List.mem_of_getElem? hy)) hya
    have hyx : y = x := by
      cases x; cases y
      simp only at *
      rw [hya, show _ = _ from Int.le_antisymm h4 h5]
    subst hyx
    refine ⟨i, (List.getElem?_eq_some_iff.1 hy).1, hy, kpB_iff.2 ⟨h2, ?_⟩⟩
    rcases Nat.eq_zero_or_pos i with h0 | h0
    · exact .inl h0
    · right
      have hil := (List.getElem?_eq_some_iff.1 hy).1
      obtain ⟨z, hz⟩ : ∃ z, L[i - 1]? = some z := ⟨_, List.getElem?_eq_getElem (by omega)⟩
      have e : L.getD (i - 1) ⟨0, 0⟩ = z := by rw [List.getD_eq_getElem?_getD, hz]; rfl
      rw [e]
      exact hno (i - 1) z (by omega) hz
/-- From a Node to one of its kids, if a member is beneath. -/
def out1 (a : Int) (x : Nd × Int) : List Ot := match notB (eqB x.1.p a) || ltB x.2 0 with
  | true => []
  | false => [⟨x.1.d, match eqB x.1.v.k 1 with
    | true => wr .i64 (x.2 + 1)
    | false => x.2⟩]
/-- To the members at an interface. -/
def out2 (g : Int) (p : Pt) : List Ot := match notB (trF p) && p.gs.any (fun x => decide (x = g)) with
  | true => [⟨p.a, 1⟩]
  | false => []
def outs0 (t : List Nd) (a : Int) (o : List Int) (ps : List Pt) (g : Int) : List Ot := (t.zip o).flatMap (out1 a) ++ ps.flatMap (out2 g)
theorem out1_len (a : Int) (x : Nd × Int) : (out1 a x).length ≤ 1 := by unfold out1; split <;> simp
theorem out2_len (g : Int) (p : Pt) : (out2 g p).length ≤ 1 := by unfold out2; split <;> simp
end Go.Proofs.Ytmocggibcniggaa.Kt
