/- Part of the proofs of this seat's statements: what the functions compute. No condition. -/
import Derived.Test.YtmocggibcniggaaG2
set_option linter.unusedSimpArgs false
set_option linter.unusedVariables false
namespace Go.Proofs.Ytmocggibcniggaa.Kt
open Go Kw Go.Proofs
attribute [local irreducible] Kw.GI Kw.GR Kw.FnR Kw.FnX
set_option maxHeartbeats 8000000
set_option maxRecDepth 100000
theorem F5_box {d : Nat} {x : AV} (h : Fr.get F5 d = some x) : ∃ i off, x = .box i off := by
  simp only [Fr.get] at h
  repeat' (split at h)
  all_goals first | (cases h; exact ⟨_, _, rfl⟩) | (cases h)
theorem pBk {t : List Nd} : ∀ r H1 S1, (r = .fn 81 [.box 0 0] ∧ H1 = [hTt t] ∧ S1 = []) → stA r = true ∧ StH H1 ∧ StS S1 := by
  rintro r H S ⟨rfl, rfl, rfl⟩
  refine ⟨rfl, fun e he t cs hs => ?_, fun e he => by cases he⟩
  simp only [List.mem_cons, List.not_mem_nil, or_false] at he
  rcases he with rfl
  cases hs
  show (stLL (t.map Nd.row) && true) = true
  rw [stLL_Nd]; rfl
theorem it_gen {P : Program} {g : FuncId} {l : Nat} {r0 : Loop} {xs : List AV} {Fs : Fr} {H : Hp} {S : Sp} {Post : Hp → Sp → Prop} (h : ∀ r, r = r0 → ItSpec P g l r xs Fs H S Post) : ItSpec P g l r0 xs Fs H S Post := h r0 rfl
theorem rd_intro2 {P : Program} {T : Tab} {l : Nat} {r : Loop} {fn : Func} {n p0 p1 : Nat} {x0 x1 : AV} {Fs : Fr} {H : Hp} {S : Sp} {Post : Hp → Sp → Prop} {A B : Code} {f : FuncId} (hr : r = ready r) (hps : r.params = #[p0, p1]) (hn : r.tmps.size = n) (h0 : Nat.blt p0 n = true) (h1 : Nat.blt p1 n = true) (hA : r.assign = A) (hB : r.body = B) (hf : r.fn = f)
    (h : ∀ (w : World) (X : Org), X.nb = H.length → w.heap[l]? = some (.loop r) → Far w X l → GI ⟨P, T, f, fn, n, w, X, RetY w X Post, some l, false, []⟩ [.code A, .beginRound, .code B] ((p1, x1) :: (p0, x0) :: Fs) H S) : RdSpec P l r [x0, x1] Fs H S Post := by
  subst hA hB hf
  exact rd_intro hr hps hn h0 h1 h
theorem map_repl (n : Nat) (x : Int) : List.replicate n (nRow x) = (List.replicate n x).map nRow := by rw [List.map_replicate]
abbrev H7 (t : List Nd) (m : Mp) (ms : List Vt) (n : Nd) : Hp := [hTt t, hMf m, hVs ms, hSl 0, hSl 1, hTt t, hNd n]
theorem valR_w {w : List Int} {ms : List Vt} {n : Nd} {e : Int} (h : isW w n = true) : valR w ms n e = 0 := by unfold valR; rw [if_pos h]
theorem valR_m {w : List Int} {ms : List Vt} {n : Nd} {e : Int} (h : isW w n = false) (h2 : isMb ms n = true) : valR w ms n e = 1 := by unfold valR; rw [if_neg (by rw [h]; decide), if_pos h2]
theorem valR_r {w : List Int} {ms : List Vt} {n : Nd} {e : Int} (h : isW w n = false) (h2 : isMb ms n = false) (h3 : n.v.k = 1) : valR w ms n e = e := by unfold valR; rw [if_neg (by rw [h]; decide), if_neg (by rw [h2]; decide), if_neg (fun hh => hh.1 h3)]
theorem valR_n {w : List Int} {ms : List Vt} {n : Nd} {e : Int} (h : isW w n = false) (h2 : isMb ms n = false) (h3 : ¬ 0 ≤ e) : valR w ms n e = e := by unfold valR; rw [if_neg (by rw [h]; decide), if_neg (by rw [h2]; decide), if_neg (fun hh => h3 hh.2)]
theorem valR_p {w : List Int} {ms : List Vt} {n : Nd} {e : Int} (h : isW w n = false) (h2 : isMb ms n = false) (h3 : n.v.k ≠ 1) (h4 : 0 ≤ e) : valR w ms n e = e + 1 := by unfold valR; rw [if_neg (by rw [h]; decide), if_neg (by rw [h2]; decide), if_pos ⟨h3, h4⟩]
theorem pReach_ok (t : List Nd) (m : Mp) (ms : List Vt) (hl : t.length < 1000000) (hw : m.wl.length < 1000000) (hms : ms.length < 1000000) : FnX Try.prog 23 [fsNd t, avMf m, rsV ms] [] [] (fun r H S => r = .sl 0 ∧ H = [] ∧ ∃ o, S = [eN o] ∧ Rch t m.wl ms o) := by
  refine fnX_intro (T := TT) (n := 107) Try.func23 rfl rfl rfl (fun w X Z Y B => ?_)
  (repeat (first | refine r_end ?_ | (refine r_op ?_; first | refine r_pure hT rfl rfl rfl rfl rfl rfl ?_ | refine r_load hT rfl rfl rfl rfl rfl rfl rfl rfl rfl ?_ | refine r_box rfl rfl rfl rfl rfl rfl rfl rfl rfl ?_) | refine gi_seq ?_ | refine gi_plain ?_))
  refine r_make (n := (t.length : Int)) hT rfl rfl rfl rfl rfl rfl rfl (by show some (I (((t.map Nd.row).length : Nat) : Int)) = _; rw [List.length_map]) (by show some (I (((t.map Nd.row).length : Nat) : Int)) = _; rw [List.length_map]) rfl rfl rfl rfl rfl rfl (by omega) ⟨by rw [Int.toNat_natCast]; simp only [maxLen]; omega, by rw [Int.toNat_natCast]; show 8 * t.length ≤ _; omega⟩ ?_
  (repeat (first | refine r_end ?_ | (refine r_op ?_; first | refine r_pure hT rfl rfl rfl rfl rfl rfl ?_ | refine r_load hT rfl rfl rfl rfl rfl rfl rfl rfl rfl ?_ | refine r_store hT rfl rfl rfl rfl rfl rfl rfl rfl rfl rfl ?_ | refine r_alloc hT rfl rfl rfl rfl rfl rfl rfl rfl rfl ?_) | refine gi_seq ?_ | refine gi_plain ?_))
  refine r_make (n := (t.length : Int)) hT rfl rfl rfl rfl rfl rfl rfl (by show some (I (((t.map Nd.row).length : Nat) : Int)) = _; rw [List.length_map]) (by show some (I (((t.map Nd.row).length : Nat) : Int)) = _; rw [List.length_map]) rfl rfl rfl rfl rfl rfl (by omega) ⟨by rw [Int.toNat_natCast]; simp only [maxLen]; omega, by rw [Int.toNat_natCast]; show 8 * t.length ≤ _; omega⟩ ?_
  (repeat (first | refine r_end ?_ | (refine r_op ?_; first | refine r_pure hT rfl rfl rfl rfl rfl rfl ?_ | refine r_load hT rfl rfl rfl rfl rfl rfl rfl rfl rfl ?_ | refine r_store hT rfl rfl rfl rfl rfl rfl rfl rfl rfl rfl ?_ | refine r_alloc hT rfl rfl rfl rfl rfl rfl rfl rfl rfl ?_) | refine gi_seq ?_ | refine gi_plain ?_ | refine gi_block ?_))
  have hrep : List.replicate (t.length : Int).toNat (zRow [Value.int IntKind.i64 0]) = (List.replicate t.length (0 : Int)).map nRow := by rw [Int.toNat_natCast, List.map_replicate]; rfl
  refine gi_loop (σ := Nat × List Int) (fun s => [(22, I (s.1 : Int)), (21, I (t.length : Int)), (3, .box 0 0), (4, .box 1 0), (5, .box 2 0), (7, .box 3 0), (8, .box 4 0)]) (fun _ => [hTt t, hMf m, hVs ms, hSl 0, hSl 1]) (fun s => [eN (List.replicate t.length 0), eN s.2]) (fun s => s.1 ≤ t.length ∧ s.2.length = t.length ∧ ∀ k, k < s.1 → s.2[k]? = some (-1)) (fun s => t.length - s.1) (0, List.replicate t.length 0) ⟨Nat.zero_le _, by simp, fun k hk => absurd hk (Nat.not_lt_zero _)⟩ ⟨rfl, ?_, rfl, rfl, rfl, rfl, rfl, trivial⟩ ⟨rfl, rfl, rfl, rfl, rfl, trivial⟩ ⟨?_, ?_, trivial⟩ (fun _ => rfl) (fun s hs next => ?_)
  · show some (I (((List.replicate (t.length : Int).toNat (zRow [Value.int IntKind.i64 0])).length : Nat) : Int)) = _
    rw [hrep, List.length_map, List.length_replicate]
  · show eN (List.replicate t.length 0) = some (⟨_, _, List.replicate (t.length : Int).toNat (zRow [Value.int IntKind.i64 0]), _⟩ : SE)
    rw [hrep]
  · show eN (List.replicate t.length 0) = some (⟨_, _, List.replicate (t.length : Int).toNat (zRow [Value.int IntKind.i64 0]), _⟩ : SE)
    rw [hrep]
  obtain ⟨j, d⟩ := s
  obtain ⟨hj, hld, hk⟩ := hs
  simp only at hj hld hk
  (repeat (first | refine r_end ?_ | (refine r_op ?_; refine r_pure hT rfl rfl rfl rfl rfl rfl ?_) | refine gi_seq ?_ | refine gi_plain ?_))
  refine gi_lt (p := (j : Int)) rfl (fun h3 => ?_) (fun h3 => ?_)
  · have hjl' : j + 1 ≤ t.length := by omega
    have hjl : j < d.length := by omega
    (repeat (first | refine r_end ?_ | (refine r_op ?_; first | refine r_pure hT rfl rfl rfl rfl rfl rfl ?_ | refine r_load hT rfl rfl rfl rfl rfl rfl rfl rfl rfl ?_) | refine gi_seq ?_ | refine gi_plain ?_ | refine gi_skip ?_ | refine gi_block ?_))
    refine r_idxS hT rfl rfl rfl rfl rfl rfl rfl rfl rfl rfl rfl rfl rfl (by show (0 : Int) ≤ (j : Int); omega) (by show ((j : Nat) : Int).toNat < (d.map nRow).length; rw [List.length_map]; omega) ?_
    skip
    refine r_storeS (row := nRow d[j]) hT rfl rfl rfl rfl rfl rfl rfl rfl rfl rfl rfl rfl rfl (by show (List.map nRow _)[((j : Nat) : Int).toNat]? = _; rw [Int.toNat_natCast, List.getElem?_map, List.getElem?_eq_getElem hjl]; rfl) ?_
    (repeat (first | refine r_end ?_ | (refine r_op ?_; refine r_pure hT rfl rfl rfl rfl rfl rfl ?_) | refine gi_plain ?_ | refine gi_inBlock ?_))
    refine next (j + 1, d.set j (-1)) _ _ _ ⟨hjl', by rw [List.length_set]; exact hld, fun k hkj => ?_⟩ (by simp only; omega) ⟨?_, rfl, rfl, rfl, rfl, rfl, rfl, trivial⟩ ⟨rfl, rfl, rfl, rfl, rfl, trivial⟩ ⟨rfl, ?_, trivial⟩
    · by_cases e : k = j
      · subst e; exact List.getElem?_set_self hjl
      · rw [List.getElem?_set_ne (fun h => e h.symm)]; exact hk k (by omega)
    · show some (I (wr .i64 ((j : Int) + 1))) = _
      rw [wr_i64 (by omega) (by omega)]
      simp
    · show eN (d.set j (-1)) = some (⟨_, _, (d.map nRow).set ((j : Nat) : Int).toNat (nRow (-1)), _⟩ : SE)
      rw [Int.toNat_natCast, ← List.map_set]
  have hd : d = List.replicate t.length (-1) := by
    refine List.eq_replicate_iff.2 ⟨hld, fun b hb => ?_⟩
    obtain ⟨k, hkb⟩ := List.mem_iff_getElem?.1 hb
    have := (List.getElem?_eq_some_iff.1 hkb).1
    rw [hk k (by omega)] at hkb
    exact (Option.some.inj hkb).symm
  subst hd
  (repeat (first | (refine r_op ?_; refine r_load hT rfl rfl rfl rfl rfl rfl rfl rfl rfl ?_) | refine gi_seq ?_ | refine gi_plain ?_ | refine gi_exit rfl ?_))
  refine r_callX [] [] (Backward_ok t) rfl rfl rfl rfl rfl rfl Try.func53 rfl rfl rfl rfl rfl rfl rfl pBk ?_
  rintro r H1 S1 ⟨rfl, rfl, rfl⟩
  (repeat (first | refine r_end ?_ | refine gi_block ?_))
  refine gi_range (g := 81) (cap := [.box 5 0]) (Fs := F5) (Post := fun H S => H = H6 t m ms ∧ ∃ o' d', S = [eN o', eN d'] ∧ RInv t m.wl ms 0 o' d') rfl rfl rfl rfl rfl rfl (fun d x hx => ⟨SubF_get (F' := F5) ⟨rfl, rfl, rfl, rfl, rfl, trivial⟩ hx, F5_box hx⟩) rfl rfl (fun l tmps D htm => ?_) ?_
  · refine it_gen (fun r hr => ?_)
    have hrr : r = ready r := by subst hr; rfl
    have hst : r.state = .ready := by subst hr; rfl
    refine iter_ok hl (by subst hr; rfl) (fun i => RInv t m.wl ms i) _ _ (RInv.zero t m.wl ms) (fun i np o d hnp hI => ?_)
    refine rd_intro2 (T := TT) (n := 107) (fn := Try.f23) (f := 23) (p0 := 31) (p1 := 32) hrr (by subst hr; rfl) (by subst hr; exact htm) rfl rfl (congrArg Loop.assign hr) (congrArg Loop.body hr) (by subst hr; rfl) (fun wv X1 hX1 hwl1 hf1 => ?_)
    clear hr
    obtain ⟨xX, xZ, xY, xnb, xB⟩ := X1
    have hX1 : xnb = 6 := hX1
    subst hX1
    (repeat (first | refine r_end ?_ | (refine r_op ?_; first | refine r_pure hT rfl rfl rfl rfl rfl rfl ?_ | refine r_store hT rfl rfl rfl rfl rfl rfl rfl rfl rfl rfl ?_ | refine r_alloc hT rfl rfl rfl rfl rfl rfl rfl rfl rfl ?_) | refine gi_seq ?_ | refine gi_plain ?_))
    refine gi_begin (l := l) (r := r) rfl hwl1 hst hf1 ?_
    (repeat (first | (refine r_op ?_; first | refine r_pure hT rfl rfl rfl rfl rfl rfl ?_ | refine r_load hT rfl rfl rfl rfl rfl rfl rfl rfl rfl ?_) | refine gi_seq ?_ | refine gi_plain ?_ | refine gi_block ?_))
    obtain ⟨e, he⟩ : ∃ e, d[i]? = some e := ⟨_, List.getElem?_eq_getElem (by rw [hI.ld]; exact (List.getElem?_eq_some_iff.1 hnp).1)⟩
    have hil := (List.getElem?_eq_some_iff.1 hnp).1
    have hidl : i < d.length := by rw [hI.ld]; exact hil
    have hiol : i < o.length := by rw [hI.lo]; exact hil
    have hvb := hI.vb hnp he
    have heu := hI.eup hnp he
    refine r_idxS hT rfl rfl rfl rfl rfl rfl rfl rfl rfl rfl rfl rfl rfl (by show (0 : Int) ≤ (i : Int); omega) (by show ((i : Nat) : Int).toNat < (d.map nRow).length; rw [List.length_map]; omega) ?_
    skip
    refine r_loadS (row := nRow e) hT rfl rfl rfl rfl rfl rfl rfl rfl (by show (d.map nRow)[((i : Int)).toNat]? = _; rw [Int.toNat_natCast, List.getElem?_map, he]; rfl) rfl rfl rfl ?_
    (repeat (first | refine r_end ?_ | (refine r_op ?_; first | refine r_pure hT rfl rfl rfl rfl rfl rfl ?_ | refine r_load hT rfl rfl rfl rfl rfl rfl rfl rfl rfl ?_) | refine gi_seq ?_ | refine gi_plain_ne 13 rfl ?_ | refine gi_block ?_))
    apply gi_cut (σ := Unit) (fun _ => [(12, I (valR m.wl ms np e)), (13, Bo (eqB np.v.k 1)), (10, I (i : Int)), (11, .box 6 0), (3, .box 0 0), (4, .box 1 0), (5, .box 2 0), (7, .box 3 0), (8, .box 4 0)]) (fun _ => H7 t m ms np) (fun _ => [eN o, eN d]) (fun _ => True) (fun _ => rfl)
    case first =>
      intro fin
      (repeat (first | (refine r_op ?_; refine r_pure hT rfl rfl rfl rfl rfl rfl ?_) | refine gi_plain ?_))
      refine r_case (d := 43) rfl (fun hk => ?_) (fun hk => ?_)
      · have hk1 : np.v.k = 1 := by rw [eqB_eq] at hk; exact of_decide_eq_true hk
        (repeat ((refine r_op ?_; first | refine r_pure hT rfl rfl rfl rfl rfl rfl ?_ | refine r_load hT rfl rfl rfl rfl rfl rfl rfl rfl rfl ?_)))
        refine r_thaw 45 rfl ?_
        skip
        refine r_call (ContainsI_ok m.wl np.v.i hw) rfl rfl rfl rfl rfl rfl rfl rfl Try.func54 rfl rfl rfl pB ?_
        rintro r2 S2 ⟨rfl, rfl⟩
        (repeat (first | refine r_end ?_ | (refine r_op ?_; refine r_pure hT rfl rfl rfl rfl rfl rfl ?_)))
        refine gi_cond rfl (fun hwd => ?_) (fun hwd => ?_)
        · have hw1 : isW m.wl np = true := by unfold isW; rw [hwd, decide_eq_true hk1]; rfl
          (repeat (first | refine r_end ?_ | (refine r_op ?_; refine r_pure hT rfl rfl rfl rfl rfl rfl ?_) | refine gi_seq ?_ | refine gi_plain_ne 19 rfl ?_ | refine gi_inBlock ?_))
          exact fin () _ _ _ trivial ⟨by show some (I _) = some (I (valR m.wl ms np e)); rw [valR_w hw1], rfl, rfl, rfl, rfl, rfl, rfl, rfl, rfl, trivial⟩ ⟨rfl, rfl, rfl, rfl, rfl, rfl, rfl, trivial⟩ ⟨rfl, rfl, trivial⟩
        have hw0 : isW m.wl np = false := by unfold isW; rw [hwd, Bool.and_false]
        (repeat (first | (refine r_op ?_; first | refine r_pure hT rfl rfl rfl rfl rfl rfl ?_ | refine r_load hT rfl rfl rfl rfl rfl rfl rfl rfl rfl ?_) | refine gi_seq ?_ | refine gi_plain ?_))
        refine r_call (ContainsV_ok ms np.v hms) rfl rfl rfl rfl rfl rfl rfl rfl Try.func55 rfl rfl rfl pB ?_
        rintro r2 S2 ⟨rfl, rfl⟩
        (repeat (first | refine r_end ?_ | (refine r_op ?_; refine r_pure hT rfl rfl rfl rfl rfl rfl ?_)))
        refine gi_cond rfl (fun hmb => ?_) (fun hmb => ?_)
        · have hmb : isMb ms np = true := hmb
          (repeat (first | refine r_end ?_ | (refine r_op ?_; refine r_pure hT rfl rfl rfl rfl rfl rfl ?_) | refine gi_seq ?_ | refine gi_plain_ne 19 rfl ?_ | refine gi_inBlock ?_))
          exact fin () _ _ _ trivial ⟨by show some (I _) = some (I (valR m.wl ms np e)); rw [valR_m hw0 hmb], rfl, rfl, rfl, rfl, rfl, rfl, rfl, rfl, trivial⟩ ⟨rfl, rfl, rfl, rfl, rfl, rfl, rfl, trivial⟩ ⟨rfl, rfl, trivial⟩
        have hmb : isMb ms np = false := hmb
        (repeat (first | (refine r_op ?_; refine r_pure hT rfl rfl rfl rfl rfl rfl ?_) | refine gi_seq ?_ | refine gi_plain ?_))
        refine r_case (d := 59) rfl (fun h59 => ?_) (fun h59 => ?_)
        · rw [notB_eq, hk] at h59
          exact absurd h59 (by decide)
        · skip
          (repeat (first | refine r_end ?_ | (refine r_op ?_; first | refine r_pure hT rfl rfl rfl rfl rfl rfl ?_ | refine r_off rfl rfl rfl rfl rfl ?_) | refine gi_seq ?_ | refine gi_skip ?_ | refine gi_inBlock ?_ | (refine gi_cnd ?_; first | refine gi_true rfl ?_ | refine gi_false rfl ?_)))
          exact fin () _ _ _ trivial ⟨by show some (I _) = some (I (valR m.wl ms np e)); rw [valR_r hw0 hmb hk1], rfl, rfl, rfl, rfl, rfl, rfl, rfl, rfl, trivial⟩ ⟨rfl, rfl, rfl, rfl, rfl, rfl, rfl, trivial⟩ ⟨rfl, rfl, trivial⟩
      · have hk1 : np.v.k ≠ 1 := by rw [eqB_eq] at hk; exact of_decide_eq_false hk
        have hw0 : isW m.wl np = false := by unfold isW; rw [decide_eq_false hk1]; rfl
        (repeat (first | refine r_end ?_ | (refine r_op ?_; first | refine r_pure hT rfl rfl rfl rfl rfl rfl ?_ | refine r_load hT rfl rfl rfl rfl rfl rfl rfl rfl rfl ?_ | refine r_off rfl rfl rfl rfl rfl ?_) | refine gi_seq ?_ | refine gi_plain ?_ | (refine gi_cnd ?_; first | refine gi_true rfl ?_ | refine gi_false rfl ?_)))
        refine r_call (ContainsV_ok ms np.v hms) rfl rfl rfl rfl rfl rfl rfl rfl Try.func55 rfl rfl rfl pB ?_
        rintro r2 S2 ⟨rfl, rfl⟩
        (repeat (first | refine r_end ?_ | (refine r_op ?_; refine r_pure hT rfl rfl rfl rfl rfl rfl ?_)))
        refine gi_cond rfl (fun hmb => ?_) (fun hmb => ?_)
        · have hmb : isMb ms np = true := hmb
          (repeat (first | refine r_end ?_ | (refine r_op ?_; refine r_pure hT rfl rfl rfl rfl rfl rfl ?_) | refine gi_seq ?_ | refine gi_plain_ne 19 rfl ?_ | refine gi_inBlock ?_))
          exact fin () _ _ _ trivial ⟨by show some (I _) = some (I (valR m.wl ms np e)); rw [valR_m hw0 hmb], rfl, rfl, rfl, rfl, rfl, rfl, rfl, rfl, trivial⟩ ⟨rfl, rfl, rfl, rfl, rfl, rfl, rfl, trivial⟩ ⟨rfl, rfl, trivial⟩
        have hmb : isMb ms np = false := hmb
        (repeat (first | (refine r_op ?_; refine r_pure hT rfl rfl rfl rfl rfl rfl ?_) | refine gi_seq ?_ | refine gi_plain ?_))
        refine r_case (d := 59) rfl (fun h59 => ?_) (fun h59 => ?_)
        · (repeat (first | refine r_end ?_ | (refine r_op ?_; refine r_pure hT rfl rfl rfl rfl rfl rfl ?_)))
          refine gi_le (p := 0) (q := e) rfl (fun he0 => ?_) (fun he0 => ?_)
          · have hcp : cP np = 1 := if_neg hk1
            (repeat (first | refine r_end ?_ | (refine r_op ?_; refine r_pure hT rfl rfl rfl rfl rfl rfl ?_) | refine gi_seq ?_ | refine gi_plain_ne 19 rfl ?_ | refine gi_inBlock ?_))
            exact fin () _ _ _ trivial ⟨by show some (I _) = some (I (valR m.wl ms np e)); rw [wr_i64 (by omega) (by omega), valR_p hw0 hmb hk1 he0], rfl, rfl, rfl, rfl, rfl, rfl, rfl, rfl, trivial⟩ ⟨rfl, rfl, rfl, rfl, rfl, rfl, rfl, trivial⟩ ⟨rfl, rfl, trivial⟩
          · skip
            (repeat (first | refine gi_seq ?_ | refine gi_skip ?_ | refine gi_inBlock ?_))
            exact fin () _ _ _ trivial ⟨by show some (I _) = some (I (valR m.wl ms np e)); rw [valR_n hw0 hmb he0], rfl, rfl, rfl, rfl, rfl, rfl, rfl, rfl, trivial⟩ ⟨rfl, rfl, rfl, rfl, rfl, rfl, rfl, trivial⟩ ⟨rfl, rfl, trivial⟩
        · rw [notB_eq, hk] at h59
          exact absurd h59 (by decide)
    case after =>
      intro _ _
      generalize hv : valR m.wl ms np e = v at hvb ⊢
      have hskip : (np.p < 0 ∨ (i : Int) ≤ np.p ∨ v < 0) → RInv t m.wl ms i (o.set i v) d := fun h => by
        subst hv; exact hI.skip hnp he h
      (repeat (first | (refine r_op ?_; first | refine r_pure hT rfl rfl rfl rfl rfl rfl ?_ | refine r_load hT rfl rfl rfl rfl rfl rfl rfl rfl rfl ?_) | refine gi_plain ?_))
      refine r_idxS hT rfl rfl rfl rfl rfl rfl rfl rfl rfl rfl rfl rfl rfl (by show (0 : Int) ≤ (i : Int); omega) (by show ((i : Nat) : Int).toNat < (o.map nRow).length; rw [List.length_map]; omega) ?_
      skip
      refine r_storeS (row := nRow o[i]) hT rfl rfl rfl rfl rfl rfl rfl rfl rfl rfl rfl rfl rfl (by show (List.map nRow _)[((i : Nat) : Int).toNat]? = _; rw [Int.toNat_natCast, List.getElem?_map, List.getElem?_eq_getElem hiol]; rfl) ?_
      (repeat (first | refine r_end ?_ | refine gi_seq ?_))
      refine gi_weak (F' := [(12, I v), (13, Bo (eqB np.v.k 1)), (10, I (i : Int)), (11, .box 6 0), (3, .box 0 0), (4, .box 1 0), (5, .box 2 0), (7, .box 3 0), (8, .box 4 0)]) (H' := H7 t m ms np) (S' := [eN (o.set i v), eN d]) ⟨rfl, rfl, rfl, rfl, rfl, rfl, rfl, rfl, rfl, trivial⟩ ⟨rfl, rfl, rfl, rfl, rfl, rfl, rfl, trivial⟩ ⟨?_, rfl, trivial⟩ rfl ?_
      · show eN (o.set i v) = some (⟨_, _, (o.map nRow).set ((i : Nat) : Int).toNat (nRow v), _⟩ : SE)
        rw [Int.toNat_natCast, ← List.map_set]
      (repeat (first | (refine r_op ?_; first | refine r_pure hT rfl rfl rfl rfl rfl rfl ?_ | refine r_load hT rfl rfl rfl rfl rfl rfl rfl rfl rfl ?_) | refine gi_plain ?_))
      refine r_case (d := 72) rfl (fun hp0 => ?_) (fun hp0 => ?_)
      · (repeat (first | refine r_end ?_ | (refine r_op ?_; first | refine r_pure hT rfl rfl rfl rfl rfl rfl ?_ | refine r_off rfl rfl rfl rfl rfl ?_) | refine gi_exit rfl ?_ | (refine gi_cnd ?_; first | refine gi_true rfl ?_ | refine gi_false rfl ?_)))
        refine gi_weak (F' := []) (H' := H6 t m ms) (S' := [eN (o.set i v), eN d]) trivial ⟨rfl, rfl, rfl, rfl, rfl, rfl, trivial⟩ ⟨rfl, rfl, trivial⟩ rfl ?_
        refine gi_endR (l := l) (r := r) (w0 := wv) rfl rfl (by rw [← hrr]; exact hwl1) hf1 rfl rfl ⟨rfl, _, _, rfl, hskip (.inl (by rw [ltB_eq] at hp0; exact of_decide_eq_true hp0))⟩
      rw [ltB_eq] at hp0
      have hp0 := of_decide_eq_false hp0
      (repeat ((refine r_op ?_; first | refine r_pure hT rfl rfl rfl rfl rfl rfl ?_ | refine r_load hT rfl rfl rfl rfl rfl rfl rfl rfl rfl ?_)))
      refine r_case (d := 78) rfl (fun hp1 => ?_) (fun hp1 => ?_)
      · (repeat (first | refine r_end ?_ | (refine r_op ?_; first | refine r_pure hT rfl rfl rfl rfl rfl rfl ?_ | refine r_off rfl rfl rfl rfl rfl ?_) | refine gi_exit rfl ?_ | (refine gi_cnd ?_; first | refine gi_true rfl ?_ | refine gi_false rfl ?_)))
        refine gi_weak (F' := []) (H' := H6 t m ms) (S' := [eN (o.set i v), eN d]) trivial ⟨rfl, rfl, rfl, rfl, rfl, rfl, trivial⟩ ⟨rfl, rfl, trivial⟩ rfl ?_
        refine gi_endR (l := l) (r := r) (w0 := wv) rfl rfl (by rw [← hrr]; exact hwl1) hf1 rfl rfl ⟨rfl, _, _, rfl, hskip (.inr (.inl (by rw [leB_eq] at hp1; exact of_decide_eq_true hp1)))⟩
      rw [leB_eq] at hp1
      have hp1 := of_decide_eq_false hp1
      (repeat (first | refine r_end ?_ | (refine r_op ?_; refine r_pure hT rfl rfl rfl rfl rfl rfl ?_)))
      refine gi_lt rfl (fun hv0 => ?_) (fun hv0 => ?_)
      · (repeat (refine gi_exit rfl ?_))
        refine gi_weak (F' := []) (H' := H6 t m ms) (S' := [eN (o.set i v), eN d]) trivial ⟨rfl, rfl, rfl, rfl, rfl, rfl, trivial⟩ ⟨rfl, rfl, trivial⟩ rfl ?_
        refine gi_endR (l := l) (r := r) (w0 := wv) rfl rfl (by rw [← hrr]; exact hwl1) hf1 rfl rfl ⟨rfl, _, _, rfl, hskip (.inr (.inr hv0))⟩
      obtain ⟨p, hp⟩ : ∃ p : Nat, np.p = p := ⟨np.p.toNat, by omega⟩
      have hpi : p < i := by omega
      obtain ⟨q, hq⟩ : ∃ q, t[p]? = some q := ⟨_, List.getElem?_eq_getElem (by omega)⟩
      obtain ⟨f, hf⟩ : ∃ f, d[p]? = some f := ⟨_, List.getElem?_eq_getElem (by omega)⟩
      have htell : RInv t m.wl ms i (o.set i v) (d.set p (nearI f (v + cK q np))) := by
        subst hv; exact hI.tell hnp he hp hpi hq hf (by omega)
      have hcb := cK_b q np
      apply gi_cut (σ := Unit) (fun _ => [(12, I (v + cK q np)), (10, I (i : Int)), (11, .box 6 0), (3, .box 0 0), (4, .box 1 0), (5, .box 2 0), (7, .box 3 0), (8, .box 4 0)]) (fun _ => H7 t m ms np) (fun _ => [eN (o.set i v), eN d]) (fun _ => True) (fun _ => rfl)
      case first =>
        intro fin
        (repeat (first | (refine r_op ?_; refine r_pure hT rfl rfl rfl rfl rfl rfl ?_) | refine gi_seq ?_ | refine gi_plain ?_ | refine gi_skip ?_))
        refine r_case (d := 83) rfl (fun hk => ?_) (fun hk => ?_)
        · have hk1 : np.v.k = 1 := by rw [eqB_eq] at hk; exact of_decide_eq_true hk
          (repeat ((refine r_op ?_; first | refine r_pure hT rfl rfl rfl rfl rfl rfl ?_ | refine r_load hT rfl rfl rfl rfl rfl rfl rfl rfl rfl ?_)))
          refine r_thaw 84 rfl ?_
          refine r_idx (row := q.row) hT rfl rfl rfl rfl rfl rfl rfl rfl rfl rfl rfl rfl (by show 0 ≤ np.p; omega) (by rw [hp, Int.toNat_natCast]; simp [hq]) ?_
          (repeat (first | refine r_end ?_ | (refine r_op ?_; first | refine r_pure hT rfl rfl rfl rfl rfl rfl ?_ | refine r_load hT rfl rfl rfl rfl rfl rfl rfl rfl rfl ?_)))
          refine gi_eq rfl (fun hq1 => ?_) (fun hq1 => ?_)
          · have hc : cK q np = 1 := if_pos ⟨hk1, hq1⟩
            (repeat (first | refine r_end ?_ | (refine r_op ?_; refine r_pure hT rfl rfl rfl rfl rfl rfl ?_) | refine gi_plain_ne 23 rfl ?_))
            exact fin () _ _ _ trivial ⟨by show some (I _) = some (I (v + cK q np)); rw [hc, wr_i64 (by omega) (by omega)], rfl, rfl, rfl, rfl, rfl, rfl, rfl, trivial⟩ ⟨rfl, rfl, rfl, rfl, rfl, rfl, rfl, trivial⟩ ⟨rfl, rfl, trivial⟩
          · have hc : cK q np = 0 := if_neg (fun h => hq1 h.2)
            (repeat (refine gi_skip ?_))
            exact fin () _ _ _ trivial ⟨by show some (I _) = some (I (v + cK q np)); rw [hc, Int.add_zero], rfl, rfl, rfl, rfl, rfl, rfl, rfl, trivial⟩ ⟨rfl, rfl, rfl, rfl, rfl, rfl, rfl, trivial⟩ ⟨rfl, rfl, trivial⟩
        · have hk1 : np.v.k ≠ 1 := by rw [eqB_eq] at hk; exact of_decide_eq_false hk
          have hc : cK q np = 0 := if_neg (fun h => hk1 h.1)
          (repeat (first | refine r_end ?_ | (refine r_op ?_; first | refine r_pure hT rfl rfl rfl rfl rfl rfl ?_ | refine r_off rfl rfl rfl rfl rfl ?_) | refine gi_skip ?_ | (refine gi_cnd ?_; first | refine gi_true rfl ?_ | refine gi_false rfl ?_)))
          skip
          exact fin () _ _ _ trivial ⟨by show some (I _) = some (I (v + cK q np)); rw [hc, Int.add_zero], rfl, rfl, rfl, rfl, rfl, rfl, rfl, trivial⟩ ⟨rfl, rfl, rfl, rfl, rfl, rfl, rfl, trivial⟩ ⟨rfl, rfl, trivial⟩
      case after =>
        intro _ _
        refine gi_drawM [11] [(1, .p), (4, .p), (8, .p), (0, .t), (2, .t), (3, .t), (5, .t), (6, .p), (7, .t), (9, .o), (10, .p), (11, .l)] [0, 0, 2, 0, 0, 16, 40, 64, 0, 384, 1023, 2047] [0, 0, 2, 0, 0, 16, 40, 64, 0, 384, 5, 1536] hm rfl (by kernel_rfl) (fun w1 K => ?_)
        (repeat ((refine r_op ?_; first | refine r_pure hT rfl rfl rfl rfl rfl rfl ?_ | refine r_load hT rfl rfl rfl rfl rfl rfl rfl rfl rfl ?_)))
        refine r_idxS hT rfl rfl rfl rfl rfl rfl rfl rfl rfl rfl rfl rfl rfl (by show 0 ≤ np.p; omega) (by show np.p.toNat < (d.map nRow).length; rw [List.length_map]; omega) ?_
        skip
        refine r_loadS (row := nRow f) hT rfl rfl rfl rfl rfl rfl rfl rfl (by show (d.map nRow)[np.p.toNat]? = _; rw [hp, Int.toNat_natCast, List.getElem?_map, hf]; rfl) rfl rfl rfl ?_
        skip
        refine r_call (nearest_ok f (v + cK q np)) rfl rfl rfl rfl rfl rfl rfl rfl Try.func56 rfl rfl rfl pI ?_
        rintro r2 S2 ⟨rfl, rfl⟩
        skip
        refine r_idxS hT rfl rfl rfl rfl rfl rfl rfl rfl rfl rfl rfl rfl rfl (by show 0 ≤ np.p; omega) (by show np.p.toNat < (d.map nRow).length; rw [List.length_map]; omega) ?_
        skip
        refine r_storeS (row := nRow f) hT rfl rfl rfl rfl rfl rfl rfl rfl rfl rfl rfl rfl rfl (by show (d.map nRow)[np.p.toNat]? = _; rw [hp, Int.toNat_natCast, List.getElem?_map, hf]; rfl) ?_
        (repeat (first | refine r_end ?_ | refine gi_inBlock ?_))
        refine gi_weak (F' := []) (H' := H6 t m ms) (S' := [eN (o.set i v), eN (d.set p (nearI f (v + cK q np)))]) trivial ⟨rfl, rfl, rfl, rfl, rfl, rfl, trivial⟩ ⟨rfl, ?_, trivial⟩ rfl ?_
        · show eN (d.set p (nearI f (v + cK q np))) = some (⟨_, _, (d.map nRow).set np.p.toNat (nRow (nearI f (v + cK q np))), _⟩ : SE)
          rw [hp, Int.toNat_natCast, ← List.map_set]
        refine gi_endR (l := l) (r := r) (w0 := wv) rfl rfl (by rw [← hrr]; exact hwl1) hf1 rfl rfl ⟨rfl, _, _, rfl, htell⟩
  · intro w3 X3 D H1 S1 hpost hnb hbh
    obtain ⟨rfl, o1, d1, rfl, hI1⟩ := hpost
    obtain ⟨xX, xZ, xY, xnb, xB⟩ := X3
    have hnb : xnb = 0 := hnb
    subst hnb
    (repeat (first | refine r_end ?_ | (refine r_op ?_; first | refine r_pure hT rfl rfl rfl rfl rfl rfl ?_ | refine r_load hT rfl rfl rfl rfl rfl rfl rfl rfl rfl ?_) | refine gi_seq ?_ | refine gi_plain ?_ | refine gi_inBlock ?_))
    refine gi_retM hbh rfl hT rfl rfl [] [0] rfl rfl rfl rfl rfl rfl rfl rfl rfl ?_ rfl rfl
    exact ⟨rfl, rfl, o1, rfl, hI1.rch⟩
end Go.Proofs.Ytmocggibcniggaa.Kt
namespace Go.Proofs.Ytmocggibcniggaa.Kt
open Go Kw Go.Proofs
attribute [local irreducible] Kw.GI Kw.GR Kw.FnR Kw.FnX
set_option maxHeartbeats 8000000
set_option maxRecDepth 100000
/-! ### advertisements that are built: their links are slices of the list's own -/
abbrev Ls.rowO (x : Ls) : List RV := [.v (.int .i64 x.age), .v (.int .i64 x.kind), .v (.int .i64 x.id), .v (.int .i64 x.adv), .v (.int .i64 x.seq), .v (.int .i64 x.sum), .v (.int .i64 x.len), .v (.int .i64 x.fl), .os 54 4 (x.lk.map Lk.row), .v (.int .i64 x.bits), .fs 1 (x.rt.map nRow), .fs 2 (x.vt.map Vt.row)]
abbrev seO (l : List Ls) : SE := ⟨51, 12, l.map Ls.rowO, true⟩
abbrev eO (l : List Ls) : Option SE := some (seO l)
theorem frz_rowO : ∀ (l : List Ls), frzLL (l.map Ls.rowO) = l.map Ls.row
  | [] => by unfold List.map frzLL; rfl
  | x :: l => by
    rw [List.map_cons, List.map_cons]
    unfold frzLL
    rw [frz_rowO l]
    rfl
theorem frz_seO (l : List Ls) : frzE (seO l) = l.map Ls.row := frz_rowO l
/-- With one link more. -/
def Ls.add (x : Ls) (q : Lk) : Ls := { x with lk := x.lk ++ [q] }
theorem rowO_add (x : Ls) (q : Lk) : (x.rowO.set 8 .any).set 8 (.os 54 4 (x.lk.map Lk.row ++ [q.row])) = (x.add q).rowO := by
  show [_, _, _, _, _, _, _, _, _, _, _, _] = _
  unfold Ls.add Ls.rowO
  simp only [List.map_append, List.map_cons, List.map_nil]
theorem eO_link {l : List Ls} {a : Nat} (x : Ls) (q : Lk) (T : Sp) : (some (⟨51, 12, ((l.map Ls.rowO).set a (x.rowO.set 8 .any)).set a ((x.rowO.set 8 .any).set 8 (.os 54 4 (x.lk.map Lk.row ++ [q.row]))), true⟩ : SE) :: T : Sp) = eO (l.set a (x.add q)) :: T := by
  rw [List.set_set, rowO_add, ← List.map_set]
/-! A row that was laid out by a literal. -/
def cellLe (x y : RV) : Prop := ∀ (Y Z : Nat → Prop) (w : World) (u : Value) (f : List Nat), OR Y Z w x u f → OR Y Z w y u f
theorem le_same (x : RV) : cellLe x x := fun _ _ _ _ _ h => h
theorem le_os (e : TypeId) (sz : Nat) : cellLe (.v (.slice none 0 0)) (.os e sz []) := fun Y Z w u f h => by
  have h := (OR_cr (x := .v (.slice none 0 0)) rfl).1 h
  obtain ⟨h1, rfl⟩ := h
  unfold CR at h1
  rw [h1.1]
  exact ⟨[], ⟨by simp, .inl ⟨rfl, rfl⟩⟩, by unfold Kw.Rows; rfl, rfl⟩
theorem le_fs (sz : Nat) : cellLe (.v (.slice none 0 0)) (.fs sz []) := fun Y Z w u f h => by
  have h := (OR_cr (x := .v (.slice none 0 0)) rfl).1 h
  obtain ⟨h1, rfl⟩ := h
  refine (OR_cr rfl).2 ⟨?_, rfl⟩
  unfold CR at h1 ⊢
  exact ⟨none, 0, by simpa using h1.1, Nat.le_refl _, Nat.zero_le _, .inl rfl⟩
def RowLe : List RV → List RV → Prop
  | [], [] => True
  | x :: xs, y :: ys => cellLe x y ∧ RowLe xs ys
  | _, _ => False
theorem RowLe.len : ∀ {xs ys : List RV}, RowLe xs ys → xs.length = ys.length
  | [], [], _ => rfl
  | x :: xs, y :: ys, h => by simp [RowLe.len (xs := xs) (ys := ys) h.2]
  | [], _ :: _, h => h.elim
  | _ :: _, [], h => h.elim
section
variable {Y Z : Nat → Prop} {w : World}
theorem ORL_le : ∀ {xs ys : List RV} {us : List Value} {f : List Nat}, RowLe xs ys → ORL Y Z w xs us f → ORL Y Z w ys us f
  | [], [], us, f, _, h => h
  | x :: xs, y :: ys, us, f, hl, h => by
    unfold ORL at h ⊢
    obtain ⟨u, r, f1, g, h1, h2, h3, h4⟩ := h
    exact ⟨u, r, f1, g, h1, hl.1 _ _ _ _ _ h2, ORL_le (xs := xs) (ys := ys) hl.2 h3, h4⟩
  | [], _ :: _, _, _, h, _ => h.elim
  | _ :: _, [], _, _, h, _ => h.elim
theorem ORows_last {sz : Nat} {r r' : List RV} (hr : RowLe r r') : ∀ {L : List (List RV)} {us : List Value} {f : List Nat}, ORows Y Z w sz (L ++ [r]) us f → ORows Y Z w sz (L ++ [r']) us f
  | [], us, f, h => by
    have h : ORows Y Z w sz [r] us f := h
    show ORows Y Z w sz [r'] us f
    unfold ORows at h ⊢
    obtain ⟨a, b, f1, g, h1, h2, h3, h4, h5⟩ := h
    exact ⟨a, b, f1, g, h1, hr.len.symm.trans h2, ORL_le hr h3, by unfold ORows at h4 ⊢; exact h4, h5⟩
  | c :: L, us, f, h => by
    have h : ORows Y Z w sz (c :: (L ++ [r])) us f := h
    show ORows Y Z w sz (c :: (L ++ [r'])) us f
    unfold ORows at h ⊢
    obtain ⟨a, b, f1, g, h1, h2, h3, h4, h5⟩ := h
    exact ⟨a, b, f1, g, h1, h2, h3, ORows_last hr h4, h5⟩
end
theorem rows_last {e : TypeId} {sz : Nat} {L : List (List RV)} {r r' : List RV} (hr : RowLe r r') : ∀ (Y Z : Nat → Prop) w cs f, RowsE Y Z w ⟨e, sz, L ++ [r], true⟩ cs f → RowsE Y Z w ⟨e, sz, L ++ [r'], true⟩ cs f :=
  fun Y Z w cs f h => by unfold RowsE at h ⊢; exact ORows_last hr h
theorem rows_nest {e : TypeId} {sz : Nat} {L : List (List RV)} : ∀ (Y Z : Nat → Prop) w cs f, RowsE Y Z w ⟨e, sz, L, false⟩ cs f → RowsE Y Z w ⟨e, sz, L, true⟩ cs f :=
  fun Y Z w cs f h => by unfold RowsE at h ⊢; obtain ⟨h1, rfl⟩ := h; exact ORows_of_Rows h1
/-- A row as a literal lays it: no lists, but those of the routers. -/
theorem raw_le {a b c d e f g fl bt : Int} {R : RV} {rt : List Int} (hR : cellLe R (.fs 1 (rt.map nRow))) :
    RowLe [.v (.int .i64 a), .v (.int .i64 b), .v (.int .i64 c), .v (.int .i64 d), .v (.int .i64 e), .v (.int .i64 f), .v (.int .i64 g), .v (.int .i64 fl), .v (.slice none 0 0), .v (.int .i64 bt), R, .v (.slice none 0 0)] (Ls.rowO ⟨a, b, c, d, e, f, g, fl, [], bt, rt, []⟩) :=
  ⟨le_same _, le_same _, le_same _, le_same _, le_same _, le_same _, le_same _, le_same _, le_os _ _, le_same _, hR, le_fs _, trivial⟩
theorem eO_snoc (l : List Ls) (x : Ls) (r : List RV) (h : r = x.rowO) : seO (l ++ [x]) = ⟨51, 12, l.map Ls.rowO ++ [r], true⟩ := by
  rw [h]
  show (⟨_, _, (l ++ [x]).map Ls.rowO, _⟩ : SE) = _
  rw [List.map_append]
  rfl
/-! ### what Graph makes -/
def LkOk (q : Lk) : Prop := 0 ≤ q.c ∧ q.c ≤ 10 ∧ (q.k = 3 → q.d = 4294967040 ∧ 0 ≤ q.i ∧ q.i ≤ 1000000 ∧ q.i % 256 = 0)
/-- So many routers, from 1 on; each has at most N links. -/
structure Gs (k N : Nat) (gs : List Ls) : Prop where
  len : gs.length = k
  el : ∀ (j : Nat) (x : Ls), gs[j]? = some x → x = ⟨0, 1, j + 1, j + 1, 0, 0, 0, 0, x.lk, 0, [], []⟩ ∧ (∀ q ∈ x.lk, LkOk q) ∧ x.lk.length ≤ N
theorem Gs.mono {k N M : Nat} {gs : List Ls} (h : Gs k N gs) (hm : N ≤ M) : Gs k M gs := ⟨h.len, fun j x hx => by
  obtain ⟨h1, h2, h3⟩ := h.el j x hx
  exact ⟨h1, h2, Nat.le_trans h3 hm⟩⟩
theorem Gs.add {k N : Nat} {gs : List Ls} (h : Gs k N gs) {a : Nat} {x : Ls} (hx : gs[a]? = some x) {q : Lk} (hq : LkOk q) : Gs k (N + 1) (gs.set a (x.add q)) := by
  refine ⟨by rw [List.length_set]; exact h.len, fun j y hy => ?_⟩
  rcases get_set hy with ⟨rfl, rfl, _⟩ | ⟨_, hy⟩
  · obtain ⟨h1, h2, h3⟩ := h.el a x hx
    refine ⟨by unfold Ls.add; rw [h1], fun q' hq' => ?_, ?_⟩
    · rcases List.mem_append.1 hq' with hq' | hq'
      · exact h2 q' hq'
      · rw [List.mem_singleton.1 hq']; exact hq
    · show (x.lk ++ [q]).length ≤ _
      rw [List.length_append, List.length_singleton]; omega
  · obtain ⟨h1, h2, h3⟩ := h.el j y hy
    exact ⟨h1, h2, by omega⟩
theorem Gs.snoc {k N : Nat} {gs : List Ls} (h : Gs k N gs) : Gs (k + 1) N (gs ++ [⟨0, 1, k + 1, k + 1, 0, 0, 0, 0, [], 0, [], []⟩]) := by
  refine ⟨by rw [List.length_append, h.len]; rfl, fun j y hy => ?_⟩
  rcases get_snoc hy with hy | ⟨rfl, rfl⟩
  · exact h.el j y hy
  · refine ⟨?_, ?_, Nat.zero_le _⟩
    · show Ls.mk _ _ _ _ _ _ _ _ _ _ _ _ = _
      rw [h.len]
    · intro q hq; cases hq
theorem Gs.nil : Gs 0 0 [] := ⟨rfl, fun j x h => by simp at h⟩
/-- Networks. -/
def NsOk (ns : List Ls) : Prop := ∀ y ∈ ns, y = ⟨0, 2, y.id, y.adv, 0, 0, 0, 0, [], 24, y.rt, []⟩ ∧ y.rt.length ≤ 6 ∧ 0 ≤ y.id ∧ y.id ≤ 1000000 ∧ y.id % 256 = 0
theorem NsOk.nil : NsOk [] := fun y hy => by cases hy
structure GrOk (n : Int) (l : List Ls) : Prop where
  ex : ∃ (k : Nat) (gs ns : List Ls), (k : Int) = 1 + n % 6 ∧ l = gs ++ ns ∧ Gs k 200 gs ∧ NsOk ns ∧ ns.length ≤ 8
theorem GrOk.few {n : Int} {l : List Ls} (h : GrOk n l) : Few l := by
  obtain ⟨k, gs, ns, h1, rfl, h2, h3, h4⟩ := h.ex
  have hk : k ≤ 6 := by omega
  have := h2.len
  refine ⟨by rw [List.length_append]; omega, fun x hx => ?_, fun x hx => ?_⟩
  · rcases List.mem_append.1 hx with hx | hx
    · obtain ⟨j, hj⟩ := List.mem_iff_getElem?.1 hx
      have := (h2.el j x hj).2.2
      omega
    · rw [(h3 x hx).1]; exact Nat.zero_le _
  · rcases List.mem_append.1 hx with hx | hx
    · obtain ⟨j, hj⟩ := List.mem_iff_getElem?.1 hx
      rw [(h2.el j x hj).1]; exact Nat.zero_le _
    · have := (h3 x hx).2.1
      omega
abbrev u8 (n : Int) : AV := .r (.v (.int .u8 n))
abbrev rs8 (l : List Int) : AV := .r (.rs 1 (l.map fun n => [.v (.int .u8 n)]))
abbrev rsB (l : List Bool) : AV := .r (.rs 1 (l.map fun n => [.v (.bool n)]))
abbrev RG (n : Int) : AV → Hp → Sp → Prop := fun r H S => ∃ l, GrOk n l ∧ r = .sl 0 ∧ H = [] ∧ S = [eO l]
theorem stOL_O (x : Ls) : stOL x.rowO = true := by
  show (true && (true && (true && (true && (true && (true && (true && (true && (stLL (x.lk.map Lk.row) && (true && (stLL (x.rt.map nRow) && (stLL (x.vt.map Vt.row) && true)))))))))))) = true
  rw [stLL_K, stLL_N, stLL_V]
  rfl
theorem stOLL_O : ∀ (l : List Ls), stOLL (l.map Ls.rowO) = true
  | [] => rfl
  | x :: l => by
    rw [List.map_cons]
    unfold stOLL
    rw [stOL_O, stOLL_O l]; rfl
theorem pG {n : Int} : ∀ r H1 S1, RG n r H1 S1 → stA r = true ∧ StH H1 ∧ StS S1 := by
  rintro r H S ⟨l, _, rfl, rfl, rfl⟩
  refine ⟨rfl, StH.nil, fun e he s hs => ?_⟩
  rw [List.mem_singleton] at he
  subst he
  cases hs
  exact stOLL_O l
theorem cost_rm {e : Int} (m : Int) (h0 : 0 ≤ e) (hm : 0 < m) (hm' : m ≤ 6) : 0 ≤ wr .i64 (1 + rm e m) ∧ wr .i64 (1 + rm e m) ≤ 6 := by
  rw [rm_pos h0]
  have := Int.emod_nonneg e (show m ≠ 0 by omega)
  have := Int.emod_lt_of_pos e hm
  rw [wr_i64 (by omega) (by omega)]
  omega
end Go.Proofs.Ytmocggibcniggaa.Kt
namespace Go.Proofs.Ytmocggibcniggaa.Kt
open Go Kw Go.Proofs
attribute [local irreducible] Kw.GI Kw.GR Kw.FnR Kw.FnX
set_option maxHeartbeats 8000000
set_option maxRecDepth 100000
/-! ### addresses -/
def okA (a : Int) : Bool := leB 0 a && leB a 4294967295
theorem Right_ok (a : Int) : FnR Try.prog 77 [I a] (RB (okA a)) := by
  refine fnR_intro (T := TT) (n := 9) Try.func77 rfl rfl rfl (fun w Z => ?_)
  (repeat (first | refine r_end ?_ | (refine r_op ?_; refine r_pure hT rfl rfl rfl rfl rfl rfl ?_) | refine gi_seq ?_ | refine gi_plain ?_))
  refine r_case (d := 5) rfl (fun h => ?_) (fun h => ?_)
  · (repeat (first | refine r_end ?_ | (refine r_op ?_; refine r_pure hT rfl rfl rfl rfl rfl rfl ?_)))
    refine gi_retW hT Try.func77 rfl rfl [] rfl rfl rfl rfl ?_
    exact ⟨by unfold okA; rw [h]; rfl, rfl⟩
  · (repeat (first | refine r_end ?_ | (refine r_op ?_; first | refine r_pure hT rfl rfl rfl rfl rfl rfl ?_ | refine r_off rfl rfl rfl rfl rfl ?_)))
    refine gi_retW hT Try.func77 rfl rfl [] rfl rfl rfl rfl ?_
    exact ⟨by unfold okA; rw [h]; rfl, rfl⟩
theorem pMask_ok (b : Int) : FnR Try.prog 94 [I b] (RI (maskF b)) := by
  obtain ⟨g1, g2⟩ := nM_rng b
  refine fnR_intro (T := TT) (n := 9) Try.func94 rfl rfl rfl (fun w Z => ?_)
  (repeat (first | refine r_end ?_ | (refine r_op ?_; refine r_pure hT rfl rfl rfl rfl rfl rfl ?_) | refine gi_seq ?_ | refine gi_plain ?_))
  refine r_turn (d := 6) (y := I (nM b)) rfl ?_ ?_
  · rw [mm_nM]
    rw [show (32 : Int) - (32 - nM b) = nM b by omega, wr_i64 (by omega) (by omega)]
  refine r_shl rfl rfl rfl rfl rfl rfl rfl rfl g1 rfl ?_
  (repeat (first | refine r_end ?_ | (refine r_op ?_; refine r_pure hT rfl rfl rfl rfl rfl rfl ?_)))
  refine gi_retW hT Try.func94 rfl rfl [] rfl rfl rfl rfl ?_
  refine ⟨?_, rfl⟩
  unfold maskF
  rfl
@[irreducible] def pnetF (a b : Int) : Int := Go.bits .and .i64 a (maskF b)
theorem pNet_ok (a b : Int) : FnR Try.prog 78 [I a, I b] (RI (pnetF a b)) := by
  refine fnR_intro (T := TT) (n := 9) Try.func78 rfl rfl rfl (fun w Z => ?_)
  (repeat (first | refine r_end ?_ | (refine r_op ?_; refine r_pure hT rfl rfl rfl rfl rfl rfl ?_) | refine gi_seq ?_ | refine gi_plain ?_))
  refine r_call (pMask_ok b) rfl rfl rfl rfl rfl rfl rfl rfl Try.func94 rfl rfl rfl pI ?_
  rintro r S1 ⟨rfl, rfl⟩
  (repeat (first | refine r_end ?_ | (refine r_op ?_; refine r_pure hT rfl rfl rfl rfl rfl rfl ?_)))
  refine gi_retW hT Try.func78 rfl rfl [] rfl rfl rfl rfl ?_
  refine ⟨?_, rfl⟩
  unfold pnetF
  rfl
def inP (a p b : Int) : Bool := okA a && (okA p && (leB 0 b && (leB b 32 && eqB (pnetF a b) (pnetF p b))))
theorem In_ok (a p b : Int) : FnR Try.prog 48 [I a, I p, I b] (RB (inP a p b)) := by
  have done : ∀ {x : Bool}, x = inP a p b → Bo x = Bo (inP a p b) := fun h => by rw [h]
  refine fnR_intro (T := TT) (n := 30) Try.func48 rfl rfl rfl (fun w Z => ?_)
  (repeat (first | refine r_end ?_ | (refine r_op ?_; refine r_pure hT rfl rfl rfl rfl rfl rfl ?_) | refine gi_seq ?_ | refine gi_plain ?_))
  refine r_call (Right_ok a) rfl rfl rfl rfl rfl rfl rfl rfl Try.func77 rfl rfl rfl pB ?_
  rintro r S1 ⟨rfl, rfl⟩
  (repeat ((refine r_op ?_; refine r_pure hT rfl rfl rfl rfl rfl rfl ?_)))
  refine r_case (d := 9) rfl (fun h1 => ?_) (fun h1 => ?_)
  · (repeat ((refine r_op ?_; refine r_pure hT rfl rfl rfl rfl rfl rfl ?_)))
    refine r_call (Right_ok p) rfl rfl rfl rfl rfl rfl rfl rfl Try.func77 rfl rfl rfl pB ?_
    rintro r S1 ⟨rfl, rfl⟩
    (repeat ((refine r_op ?_; refine r_pure hT rfl rfl rfl rfl rfl rfl ?_)))
    refine r_case (d := 13) rfl (fun h2 => ?_) (fun h2 => ?_)
    · (repeat ((refine r_op ?_; refine r_pure hT rfl rfl rfl rfl rfl rfl ?_)))
      refine r_case (d := 17) rfl (fun h3 => ?_) (fun h3 => ?_)
      · (repeat ((refine r_op ?_; refine r_pure hT rfl rfl rfl rfl rfl rfl ?_)))
        refine r_case (d := 21) rfl (fun h4 => ?_) (fun h4 => ?_)
        · (repeat ((refine r_op ?_; refine r_pure hT rfl rfl rfl rfl rfl rfl ?_)))
          refine r_call (pNet_ok a b) rfl rfl rfl rfl rfl rfl rfl rfl Try.func78 rfl rfl rfl pI ?_
          rintro r S1 ⟨rfl, rfl⟩
          (repeat ((refine r_op ?_; refine r_pure hT rfl rfl rfl rfl rfl rfl ?_)))
          refine r_call (pNet_ok p b) rfl rfl rfl rfl rfl rfl rfl rfl Try.func78 rfl rfl rfl pI ?_
          rintro r S1 ⟨rfl, rfl⟩
          (repeat (first | refine r_end ?_ | (refine r_op ?_; refine r_pure hT rfl rfl rfl rfl rfl rfl ?_)))
          refine gi_retW hT Try.func48 rfl rfl [] rfl rfl rfl rfl ?_
          exact ⟨by unfold inP; rw [h1, h2, h3, h4]; rfl, rfl⟩
        · (repeat (first | refine r_end ?_ | (refine r_op ?_; first | refine r_pure hT rfl rfl rfl rfl rfl rfl ?_ | refine r_off rfl rfl rfl rfl rfl ?_)))
          refine gi_retW hT Try.func48 rfl rfl [] rfl rfl rfl rfl ?_
          exact ⟨by unfold inP; rw [h1, h2, h3, h4]; rfl, rfl⟩
      · (repeat (first | refine r_end ?_ | (refine r_op ?_; first | refine r_pure hT rfl rfl rfl rfl rfl rfl ?_ | refine r_off rfl rfl rfl rfl rfl ?_)))
        refine gi_retW hT Try.func48 rfl rfl [] rfl rfl rfl rfl ?_
        exact ⟨by unfold inP; rw [h1, h2, h3]; rfl, rfl⟩
    · (repeat (first | refine r_end ?_ | (refine r_op ?_; first | refine r_pure hT rfl rfl rfl rfl rfl rfl ?_ | refine r_off rfl rfl rfl rfl rfl ?_)))
      refine gi_retW hT Try.func48 rfl rfl [] rfl rfl rfl rfl ?_
      exact ⟨by unfold inP; rw [h1, h2]; rfl, rfl⟩
  · (repeat (first | refine r_end ?_ | (refine r_op ?_; first | refine r_pure hT rfl rfl rfl rfl rfl rfl ?_ | refine r_off rfl rfl rfl rfl rfl ?_)))
    refine gi_retW hT Try.func48 rfl rfl [] rfl rfl rfl rfl ?_
    exact ⟨by unfold inP; rw [h1]; rfl, rfl⟩
/-! ### where an address is -/
structure Src where
  v : Vt
  p : Int
  b : Int
  ok : Bool
abbrev Src.av (s : Src) : AV := .tup [s.v.av, I s.p, I s.b, Bo s.ok]
def z0 : Src := ⟨⟨0, 0⟩, 0, 0, false⟩
def sn1 (a : Int) (st : Src) (s : Sn) : Src := if inP a s.p s.b = true ∧ (st.ok = false ∨ st.b < s.b) then ⟨s.v, s.p, s.b, true⟩ else st
def sb1 (a : Int) (st : Src) (s : Sb) : Src := if inP a s.p s.b = true ∧ (st.ok = false ∨ st.b < s.b) then ⟨⟨1, s.r⟩, s.p, s.b, true⟩ else st
def srcF (a : Int) (m : Mp) : Src := m.sb.foldl (sb1 a) (m.sn.foldl (sn1 a) z0)
theorem foldl_tk {α β : Type} {f : β → α → β} {z : β} {l : List α} {i : Nat} {x : α} (hx : l[i]? = some x) : (l.take (i + 1)).foldl f z = f ((l.take i).foldl f z) x := by
  rw [List.take_add_one, hx, List.foldl_append]
  rfl
abbrev rsSn (l : List Sn) : AV := .r (.rs 4 (l.map Sn.row))
abbrev rsSb (l : List Sb) : AV := .r (.rs 4 (l.map Sb.row))
theorem pSource_ok (m : Mp) (a : Int) (h1 : m.sn.length < 1000000) (h2 : m.sb.length < 100000000) : FnR Try.prog 16 [avMf m, I a] (fun r S => r = (srcF a m).av ∧ S = []) := by
  refine fnR_intro (T := TT) (n := 77) Try.func16 rfl rfl rfl (fun w Z => ?_)
  (repeat (first | refine r_end ?_ | (refine r_op ?_; first | refine r_pure hT rfl rfl rfl rfl rfl rfl ?_ | refine r_load hT rfl rfl rfl rfl rfl rfl rfl rfl rfl ?_ | refine r_box rfl rfl rfl rfl rfl rfl rfl rfl rfl ?_ | refine r_alloc hT rfl rfl rfl rfl rfl rfl rfl rfl rfl ?_) | refine gi_seq ?_ | refine gi_plain ?_ | refine gi_block ?_))
  refine gi_thaw 13 rfl ?_
  refine gi_loop (σ := Nat × Src) (fun s => [(15, I (s.1 : Int)), (14, I (m.sn.length : Int)), (13, rsSn m.sn), (2, .box 0 0), (4, .box 1 0), (1, I a), (5, I s.2.p), (6, I s.2.b), (7, Bo s.2.ok)]) (fun s => [hMf m, hV s.2.v]) (fun _ => []) (fun s => s.1 ≤ m.sn.length ∧ s.2 = (m.sn.take s.1).foldl (sn1 a) z0) (fun s => m.sn.length - s.1) (0, z0) ⟨Nat.zero_le _, rfl⟩ ⟨rfl, by show some (I (((m.sn.map Sn.row).length : Nat) : Int)) = _; rw [List.length_map], rfl, rfl, rfl, rfl, rfl, rfl, rfl, trivial⟩ ⟨rfl, rfl, trivial⟩ trivial (fun _ => rfl) (fun s hs next => ?_)
  obtain ⟨i, st⟩ := s
  obtain ⟨hi, hst⟩ := hs
  simp only at hi hst
  (repeat (first | refine r_end ?_ | (refine r_op ?_; refine r_pure hT rfl rfl rfl rfl rfl rfl ?_) | refine gi_seq ?_ | refine gi_plain ?_))
  refine gi_lt (p := (i : Int)) rfl (fun h3 => ?_) (fun h3 => ?_)
  · obtain ⟨x, hx⟩ : ∃ x, m.sn[i]? = some x := ⟨_, List.getElem?_eq_getElem (by omega)⟩
    have go : ∀ st', st' = sn1 a st x → ∀ F1 H1 S1, SubF [(15, I (wr .i64 ((i : Int) + 1))), (14, I (m.sn.length : Int)), (13, rsSn m.sn), (2, .box 0 0), (4, .box 1 0), (1, I a), (5, I st'.p), (6, I st'.b), (7, Bo st'.ok)] F1 → SubH [hMf m, hV st'.v] H1 → SubS [] S1 → GI _ _ F1 H1 S1 := fun st' hst' F1 H1 S1 hF hH hS => by
      refine next (i + 1, st') F1 H1 S1 ⟨by simp only; omega, by simp only; rw [foldl_tk hx, ← hst, hst']⟩ (by simp only; omega) ?_ hH hS
      rw [wr_i64 (by omega) (by omega)] at hF
      simpa using hF
    clear next
    (repeat (first | refine gi_seq ?_ | refine gi_plain ?_ | refine gi_skip ?_ | refine gi_block ?_))
    refine r_idx (row := x.row) hT rfl rfl rfl rfl rfl rfl rfl rfl rfl rfl rfl rfl (by show (0 : Int) ≤ (i : Int); omega) (by simp [hx]) ?_
    (repeat (first | refine r_end ?_ | (refine r_op ?_; first | refine r_pure hT rfl rfl rfl rfl rfl rfl ?_ | refine r_load hT rfl rfl rfl rfl rfl rfl rfl rfl rfl ?_ | refine r_store hT rfl rfl rfl rfl rfl rfl rfl rfl rfl rfl ?_ | refine r_alloc hT rfl rfl rfl rfl rfl rfl rfl rfl rfl ?_) | refine gi_seq ?_ | refine gi_plain ?_))
    refine r_call (In_ok a x.p x.b) rfl rfl rfl rfl rfl rfl rfl rfl Try.func48 rfl rfl rfl pB ?_
    rintro r S1 ⟨rfl, rfl⟩
    (repeat ((refine r_op ?_; refine r_pure hT rfl rfl rfl rfl rfl rfl ?_)))
    refine r_case (d := 25) rfl (fun c1 => ?_) (fun c1 => ?_)
    · (repeat ((refine r_op ?_; refine r_pure hT rfl rfl rfl rfl rfl rfl ?_)))
      refine r_case (d := 28) rfl (fun c2 => ?_) (fun c2 => ?_)
      · rw [notB_eq, Bool.not_eq_true'] at c2
        have hs1 : (⟨x.v, x.p, x.b, true⟩ : Src) = sn1 a st x := (if_pos ⟨c1, .inl c2⟩).symm
        (repeat (first | refine r_end ?_ | (refine r_op ?_; first | refine r_pure hT rfl rfl rfl rfl rfl rfl ?_ | refine r_off rfl rfl rfl rfl rfl ?_) | (refine gi_cnd ?_; first | refine gi_true rfl ?_ | refine gi_false rfl ?_)))
        refine gi_pick [0, 2, 1] [] rfl rfl rfl rfl rfl ?_
        refine gi_drawT 2 true 10 [] [(0, .p), (2, .p), (4, .p), (1, .t), (3, .t), (5, .t), (6, .o), (7, .p), (8, .p), (9, .p)] .it hm rfl (by kernel_rfl) (fun w1 K => ?_)
        (repeat (first | refine r_end ?_ | (refine r_op ?_; first | refine r_pure hT rfl rfl rfl rfl rfl rfl ?_ | refine r_load hT rfl rfl rfl rfl rfl rfl rfl rfl rfl ?_ | refine r_storeO hT rfl rfl rfl rfl rfl rfl rfl rfl rfl rfl rfl ?_) | refine gi_plain ?_ | refine gi_inBlock ?_))
        refine gi_pick [0, 2] [] rfl rfl rfl rfl rfl ?_
        skip
        exact go _ hs1 _ _ _ ⟨rfl, rfl, rfl, rfl, rfl, rfl, rfl, rfl, rfl, trivial⟩ ⟨rfl, rfl, trivial⟩ trivial
      · rw [notB_eq, Bool.not_eq_false'] at c2
        (repeat (first | refine r_end ?_ | (refine r_op ?_; first | refine r_pure hT rfl rfl rfl rfl rfl rfl ?_ | refine r_load hT rfl rfl rfl rfl rfl rfl rfl rfl rfl ?_)))
        refine gi_lt rfl (fun c3 => ?_) (fun c3 => ?_)
        · have hs1 : (⟨x.v, x.p, x.b, true⟩ : Src) = sn1 a st x := (if_pos ⟨c1, .inr c3⟩).symm
          skip
          refine gi_pick [0, 2, 1] [] rfl rfl rfl rfl rfl ?_
          refine gi_drawT 2 true 10 [] [(0, .p), (2, .p), (4, .p), (1, .t), (3, .t), (5, .t), (6, .o), (7, .p), (8, .p), (9, .p)] .it hm rfl (by kernel_rfl) (fun w1 K => ?_)
          (repeat (first | refine r_end ?_ | (refine r_op ?_; first | refine r_pure hT rfl rfl rfl rfl rfl rfl ?_ | refine r_load hT rfl rfl rfl rfl rfl rfl rfl rfl rfl ?_ | refine r_storeO hT rfl rfl rfl rfl rfl rfl rfl rfl rfl rfl rfl ?_) | refine gi_plain ?_ | refine gi_inBlock ?_))
          refine gi_pick [0, 2] [] rfl rfl rfl rfl rfl ?_
          skip
          exact go _ hs1 _ _ _ ⟨rfl, rfl, rfl, rfl, rfl, rfl, rfl, rfl, rfl, trivial⟩ ⟨rfl, rfl, trivial⟩ trivial
        · have hs1 : st = sn1 a st x := (if_neg (fun h => h.2.elim (fun h => by rw [c2] at h; cases h) c3)).symm
          (repeat (first | refine r_end ?_ | (refine r_op ?_; refine r_pure hT rfl rfl rfl rfl rfl rfl ?_) | refine gi_plain ?_ | refine gi_skip ?_ | refine gi_inBlock ?_))
          exact go _ hs1 _ _ _ ⟨rfl, rfl, rfl, rfl, rfl, rfl, rfl, rfl, rfl, trivial⟩ ⟨rfl, rfl, trivial⟩ trivial
    · have hs1 : st = sn1 a st x := (if_neg (fun h => by rw [c1] at h; cases h.1)).symm
      (repeat (first | refine r_end ?_ | (refine r_op ?_; first | refine r_pure hT rfl rfl rfl rfl rfl rfl ?_ | refine r_off rfl rfl rfl rfl rfl ?_) | refine gi_plain ?_ | refine gi_skip ?_ | refine gi_inBlock ?_ | (refine gi_cnd ?_; first | refine gi_true rfl ?_ | refine gi_false rfl ?_)))
      exact go _ hs1 _ _ _ ⟨rfl, rfl, rfl, rfl, rfl, rfl, rfl, rfl, rfl, trivial⟩ ⟨rfl, rfl, trivial⟩ trivial
  · have hil : i = m.sn.length := by omega
    subst hil
    rw [List.take_length] at hst
    (repeat (first | refine r_end ?_ | (refine r_op ?_; first | refine r_pure hT rfl rfl rfl rfl rfl rfl ?_ | refine r_load hT rfl rfl rfl rfl rfl rfl rfl rfl rfl ?_) | refine gi_seq ?_ | refine gi_plain ?_ | refine gi_block ?_ | refine gi_exit rfl ?_))
    refine gi_thaw 43 rfl ?_
    refine gi_loop (σ := Nat × Src) (fun s => [(45, I (s.1 : Int)), (44, I (m.sb.length : Int)), (43, rsSb m.sb), (2, .box 0 0), (4, .box 1 0), (1, I a), (5, I s.2.p), (6, I s.2.b), (7, Bo s.2.ok)]) (fun s => [hMf m, hV s.2.v]) (fun _ => []) (fun s => s.1 ≤ m.sb.length ∧ s.2 = (m.sb.take s.1).foldl (sb1 a) st) (fun s => m.sb.length - s.1) (0, st) ⟨Nat.zero_le _, rfl⟩ ⟨rfl, by show some (I (((m.sb.map Sb.row).length : Nat) : Int)) = _; rw [List.length_map], rfl, rfl, rfl, rfl, rfl, rfl, rfl, trivial⟩ ⟨rfl, rfl, trivial⟩ trivial (fun _ => rfl) (fun s hs next => ?_)
    obtain ⟨i, su⟩ := s
    obtain ⟨hi, hsu⟩ := hs
    simp only at hi hsu
    (repeat (first | refine r_end ?_ | (refine r_op ?_; refine r_pure hT rfl rfl rfl rfl rfl rfl ?_) | refine gi_seq ?_ | refine gi_plain ?_))
    refine gi_lt (p := (i : Int)) rfl (fun h3 => ?_) (fun h3 => ?_)
    · obtain ⟨x, hx⟩ : ∃ x, m.sb[i]? = some x := ⟨_, List.getElem?_eq_getElem (by omega)⟩
      have go : ∀ st', st' = sb1 a su x → ∀ F1 H1 S1, SubF [(45, I (wr .i64 ((i : Int) + 1))), (44, I (m.sb.length : Int)), (43, rsSb m.sb), (2, .box 0 0), (4, .box 1 0), (1, I a), (5, I st'.p), (6, I st'.b), (7, Bo st'.ok)] F1 → SubH [hMf m, hV st'.v] H1 → SubS [] S1 → GI _ _ F1 H1 S1 := fun st' hst' F1 H1 S1 hF hH hS => by
        refine next (i + 1, st') F1 H1 S1 ⟨by simp only; omega, by simp only; rw [foldl_tk hx, ← hsu, hst']⟩ (by simp only; omega) ?_ hH hS
        rw [wr_i64 (by omega) (by omega)] at hF
        simpa using hF
      clear next
      (repeat (first | refine gi_seq ?_ | refine gi_plain ?_ | refine gi_skip ?_ | refine gi_block ?_))
      refine r_idx (row := x.row) hT rfl rfl rfl rfl rfl rfl rfl rfl rfl rfl rfl rfl (by show (0 : Int) ≤ (i : Int); omega) (by simp [hx]) ?_
      (repeat (first | refine r_end ?_ | (refine r_op ?_; first | refine r_pure hT rfl rfl rfl rfl rfl rfl ?_ | refine r_load hT rfl rfl rfl rfl rfl rfl rfl rfl rfl ?_ | refine r_store hT rfl rfl rfl rfl rfl rfl rfl rfl rfl rfl ?_ | refine r_alloc hT rfl rfl rfl rfl rfl rfl rfl rfl rfl ?_) | refine gi_seq ?_ | refine gi_plain ?_))
      refine r_call (In_ok a x.p x.b) rfl rfl rfl rfl rfl rfl rfl rfl Try.func48 rfl rfl rfl pB ?_
      rintro r S1 ⟨rfl, rfl⟩
      (repeat ((refine r_op ?_; refine r_pure hT rfl rfl rfl rfl rfl rfl ?_)))
      refine r_case (d := 55) rfl (fun c1 => ?_) (fun c1 => ?_)
      · (repeat ((refine r_op ?_; refine r_pure hT rfl rfl rfl rfl rfl rfl ?_)))
        refine r_case (d := 58) rfl (fun c2 => ?_) (fun c2 => ?_)
        · rw [notB_eq, Bool.not_eq_true'] at c2
          have hs1 : (⟨⟨1, x.r⟩, x.p, x.b, true⟩ : Src) = sb1 a su x := (if_pos ⟨c1, .inl c2⟩).symm
          (repeat (first | refine r_end ?_ | (refine r_op ?_; first | refine r_pure hT rfl rfl rfl rfl rfl rfl ?_ | refine r_off rfl rfl rfl rfl rfl ?_) | (refine gi_cnd ?_; first | refine gi_true rfl ?_ | refine gi_false rfl ?_)))
          refine gi_pick [0, 2, 1] [] rfl rfl rfl rfl rfl ?_
          refine gi_drawT 2 true 11 [] [(0, .p), (3, .p), (5, .p), (1, .t), (2, .p), (4, .t), (6, .t), (7, .o), (8, .p), (9, .p), (10, .p)] .it hm rfl (by kernel_rfl) (fun w1 K => ?_)
          (repeat (first | refine r_end ?_ | (refine r_op ?_; first | refine r_pure hT rfl rfl rfl rfl rfl rfl ?_ | refine r_load hT rfl rfl rfl rfl rfl rfl rfl rfl rfl ?_ | refine r_storeO hT rfl rfl rfl rfl rfl rfl rfl rfl rfl rfl rfl ?_) | refine gi_plain ?_ | refine gi_inBlock ?_))
          refine gi_pick [0, 2] [] rfl rfl rfl rfl rfl ?_
          skip
          exact go _ hs1 _ _ _ ⟨rfl, rfl, rfl, rfl, rfl, rfl, rfl, rfl, rfl, trivial⟩ ⟨rfl, rfl, trivial⟩ trivial
        · rw [notB_eq, Bool.not_eq_false'] at c2
          (repeat (first | refine r_end ?_ | (refine r_op ?_; first | refine r_pure hT rfl rfl rfl rfl rfl rfl ?_ | refine r_load hT rfl rfl rfl rfl rfl rfl rfl rfl rfl ?_)))
          refine gi_lt rfl (fun c3 => ?_) (fun c3 => ?_)
          · have hs1 : (⟨⟨1, x.r⟩, x.p, x.b, true⟩ : Src) = sb1 a su x := (if_pos ⟨c1, .inr c3⟩).symm
            skip
            refine gi_pick [0, 2, 1] [] rfl rfl rfl rfl rfl ?_
            refine gi_drawT 2 true 11 [] [(0, .p), (3, .p), (5, .p), (1, .t), (2, .p), (4, .t), (6, .t), (7, .o), (8, .p), (9, .p), (10, .p)] .it hm rfl (by kernel_rfl) (fun w1 K => ?_)
            (repeat (first | refine r_end ?_ | (refine r_op ?_; first | refine r_pure hT rfl rfl rfl rfl rfl rfl ?_ | refine r_load hT rfl rfl rfl rfl rfl rfl rfl rfl rfl ?_ | refine r_storeO hT rfl rfl rfl rfl rfl rfl rfl rfl rfl rfl rfl ?_) | refine gi_plain ?_ | refine gi_inBlock ?_))
            refine gi_pick [0, 2] [] rfl rfl rfl rfl rfl ?_
            skip
            exact go _ hs1 _ _ _ ⟨rfl, rfl, rfl, rfl, rfl, rfl, rfl, rfl, rfl, trivial⟩ ⟨rfl, rfl, trivial⟩ trivial
          · have hs1 : su = sb1 a su x := (if_neg (fun h => h.2.elim (fun h => by rw [c2] at h; cases h) c3)).symm
            (repeat (first | refine r_end ?_ | (refine r_op ?_; refine r_pure hT rfl rfl rfl rfl rfl rfl ?_) | refine gi_plain ?_ | refine gi_skip ?_ | refine gi_inBlock ?_))
            exact go _ hs1 _ _ _ ⟨rfl, rfl, rfl, rfl, rfl, rfl, rfl, rfl, rfl, trivial⟩ ⟨rfl, rfl, trivial⟩ trivial
      · have hs1 : su = sb1 a su x := (if_neg (fun h => by rw [c1] at h; cases h.1)).symm
        (repeat (first | refine r_end ?_ | (refine r_op ?_; first | refine r_pure hT rfl rfl rfl rfl rfl rfl ?_ | refine r_off rfl rfl rfl rfl rfl ?_) | refine gi_plain ?_ | refine gi_skip ?_ | refine gi_inBlock ?_ | (refine gi_cnd ?_; first | refine gi_true rfl ?_ | refine gi_false rfl ?_)))
        exact go _ hs1 _ _ _ ⟨rfl, rfl, rfl, rfl, rfl, rfl, rfl, rfl, rfl, trivial⟩ ⟨rfl, rfl, trivial⟩ trivial
    · have hil : i = m.sb.length := by omega
      subst hil
      rw [List.take_length] at hsu
      have hfin : su = srcF a m := by unfold srcF; rw [hsu, hst]
      (repeat (first | refine r_end ?_ | (refine r_op ?_; first | refine r_pure hT rfl rfl rfl rfl rfl rfl ?_ | refine r_load hT rfl rfl rfl rfl rfl rfl rfl rfl rfl ?_ | refine r_store hT rfl rfl rfl rfl rfl rfl rfl rfl rfl rfl ?_) | refine gi_seq ?_ | refine gi_plain ?_ | refine gi_exit rfl ?_))
      refine gi_retW hT Try.func16 rfl rfl [] rfl rfl rfl rfl ?_
      exact ⟨by rw [← hfin], rfl⟩
end Go.Proofs.Ytmocggibcniggaa.Kt
namespace Go.Proofs.Ytmocggibcniggaa.Kt
open Go Kw Go.Proofs
attribute [local irreducible] Kw.GI Kw.GR Kw.FnR Kw.FnX
set_option maxHeartbeats 16000000
set_option maxRecDepth 100000
theorem eO_link2 {gs ns : List Ls} {a : Nat} (ha : a < gs.length) (x : Ls) (q : Lk) (T : Sp) : (some (⟨51, 12, (((gs ++ ns).map Ls.rowO).set a (x.rowO.set 8 .any)).set a ((x.rowO.set 8 .any).set 8 (.os 54 4 (x.lk.map Lk.row ++ [q.row]))), true⟩ : SE) :: T : Sp) = eO (gs.set a (x.add q) ++ ns) :: T := by
  rw [eO_link x q T, set_app_left ha]
theorem lk1 {i d c : Int} (h : 0 ≤ c ∧ c ≤ 10) : LkOk ⟨1, i, d, c⟩ := ⟨h.1, h.2, fun e => by cases e⟩
theorem lk2 {i d c : Int} (h : 0 ≤ c ∧ c ≤ 10) : LkOk ⟨2, i, d, c⟩ := ⟨h.1, h.2, fun e => by cases e⟩
theorem idx_nat {k : Nat} {v : Int} (hk : 0 < k) (hv : 0 ≤ v) : ∃ a : Nat, rm v k = a ∧ a < k := by
  rw [rm_pos hv]
  have h1 := Int.emod_nonneg v (show (k : Int) ≠ 0 by omega)
  have h2 := Int.emod_lt_of_pos v (show (0 : Int) < k by omega)
  exact ⟨(v % k).toNat, by omega, by omega⟩
theorem Graph_ok (n : Int) (hn : 0 ≤ n ∧ n ≤ 255) (ps qs : List Int) (hps : ∀ p ∈ ps, 0 ≤ p ∧ p ≤ 255) (hqs : ∀ p ∈ qs, 0 ≤ p ∧ p ≤ 255) (one : List Bool) : FnX Try.prog 28 [u8 n, rs8 ps, rs8 qs, rsB one] [] [] (RG n) := by
  refine fnX_intro (T := TT) (n := 235) Try.func28 rfl rfl rfl (fun w X Z Y B => ?_)
  obtain ⟨k, hk⟩ : ∃ k : Nat, (k : Int) = 1 + n % 6 := ⟨(1 + n % 6).toNat, by omega⟩
  have hk1 : 1 ≤ k ∧ k ≤ 6 := by omega
  (repeat (first | refine r_end ?_ | (refine r_op ?_; refine r_pure hT rfl rfl rfl rfl rfl rfl ?_) | refine gi_seq ?_ | refine gi_plain_ne 2 rfl ?_))
  refine gi_turn (d := 9) (y := I (k : Int)) rfl (by rw [wr_i64 (n := n) (by omega) (by omega), rm_pos hn.1, wr_i64 (by omega) (by omega), hk]) ?_
  (repeat (first | refine r_end ?_ | (refine r_op ?_; refine r_pure hT rfl rfl rfl rfl rfl rfl ?_) | refine gi_seq ?_ | refine gi_plain ?_ | refine gi_block ?_))
  refine gi_adopt (e := 51) (sz := 12) 10 rfl ?_
  refine gi_rows 0 (se' := seO []) rfl ⟨rfl, rfl, rfl⟩ rows_nest ?_
  refine gi_loop (σ := Nat × List Ls) (fun s => [(11, I ((s.1 : Int) + 1)), (9, I k), (10, .sl 0), (1, rs8 ps), (2, rs8 qs), (3, rsB one)]) (fun _ => []) (fun s => [eO s.2]) (fun s => s.1 ≤ k ∧ Gs s.1 0 s.2) (fun s => k - s.1) (0, []) ⟨Nat.zero_le _, Gs.nil⟩ ⟨rfl, rfl, rfl, rfl, rfl, rfl, trivial⟩ trivial ⟨rfl, trivial⟩ (fun _ => rfl) (fun s hs next => ?_)
  obtain ⟨j, gs⟩ := s
  obtain ⟨hj, hG⟩ := hs
  simp only at hj hG
  have hgl := hG.len
  (repeat (first | refine r_end ?_ | (refine r_op ?_; refine r_pure hT rfl rfl rfl rfl rfl rfl ?_) | refine gi_seq ?_ | refine gi_plain ?_))
  refine gi_le rfl (fun h3 => ?_) (fun h3 => ?_)
  · (repeat (first | (refine r_op ?_; first | refine r_pure hT rfl rfl rfl rfl rfl rfl ?_ | refine r_lit hT rfl rfl rfl rfl rfl rfl rfl rfl rfl rfl rfl rfl rfl ?_) | refine gi_seq ?_ | refine gi_plain ?_ | refine gi_skip ?_ | refine gi_block ?_))
    refine r_append hT rfl rfl rfl rfl rfl rfl rfl rfl rfl rfl rfl rfl rfl rfl rfl rfl rfl (by simp only [List.length_cons, List.length_nil, List.length_map, maxLen]; exact ⟨by omega, by show _ * 144 ≤ _; omega⟩) ?_
    (repeat (first | refine r_end ?_ | (refine r_op ?_; refine r_pure hT rfl rfl rfl rfl rfl rfl ?_) | refine gi_plain ?_ | refine gi_inBlock ?_))
    refine gi_rows 0 (se' := seO (gs ++ [⟨0, 1, j + 1, j + 1, 0, 0, 0, 0, [], 0, [], []⟩])) rfl ⟨rfl, rfl, by simp⟩ (by rw [eO_snoc gs _ _ rfl]; exact rows_last (raw_le (le_fs 1))) ?_
    refine next (j + 1, gs ++ [⟨0, 1, j + 1, j + 1, 0, 0, 0, 0, [], 0, [], []⟩]) _ _ _ ⟨by simp only; omega, hG.snoc⟩ (by simp only; omega) ⟨?_, rfl, rfl, rfl, rfl, rfl, trivial⟩ trivial ⟨rfl, trivial⟩
    show some (I (wr .i64 ((j : Int) + 1 + 1))) = _
    rw [wr_i64 (by omega) (by omega)]
    simp
  obtain rfl : j = k := by omega
  (repeat (first | refine r_end ?_ | (refine r_op ?_; refine r_pure hT rfl rfl rfl rfl rfl rfl ?_) | refine gi_seq ?_ | refine gi_plain ?_ | refine gi_block ?_ | refine gi_exit rfl ?_))
  refine gi_loop (σ := Nat × Nat × List Ls) (fun s => [(13, I s.1), (12, I s.2.1), (9, I j), (10, .sl 0), (1, rs8 ps), (2, rs8 qs), (3, rsB one)]) (fun _ => []) (fun s => [eO s.2.2]) (fun s => s.1 ≤ 40 ∧ s.2.1 ≤ s.1 ∧ Gs j s.1 s.2.2) (fun s => 50 - s.1) (0, 0, gs) ⟨Nat.zero_le _, Nat.zero_le _, hG⟩ ⟨rfl, rfl, rfl, rfl, rfl, rfl, rfl, trivial⟩ trivial ⟨rfl, trivial⟩ (fun _ => rfl) (fun s hs next => ?_)
  obtain ⟨i, t, gs⟩ := s
  obtain ⟨hi, ht, hG⟩ := hs
  simp only at hi ht hG
  have hgl := hG.len
  (repeat (refine gi_seq ?_))
  apply gi_cut (σ := Unit) (fun _ => [(12, I t), (9, I j), (10, .sl 0), (1, rs8 ps), (2, rs8 qs), (3, rsB one)]) (fun _ => []) (fun _ => [eO gs]) (fun _ => True) (fun _ => rfl)
  case first =>
    intro fin
    (repeat (first | (refine r_op ?_; refine r_pure hT rfl rfl rfl rfl rfl rfl ?_) | refine gi_plain ?_))
    refine r_case (d := 42) rfl (fun c1 => ?_) (fun c1 => ?_)
    · rw [ltB_eq, wr_i64 (by omega) (by omega)] at c1
      have c1 := of_decide_eq_true c1
      rw [List.length_map] at c1
      (repeat (first | refine r_end ?_ | (refine r_op ?_; refine r_pure hT rfl rfl rfl rfl rfl rfl ?_)))
      refine gi_lt rfl (fun h4 => ?_) (fun h4 => ?_)
      · obtain ⟨p0, hp0⟩ : ∃ x, ps[i]? = some x := ⟨_, List.getElem?_eq_getElem (by omega)⟩
        obtain ⟨p1, hp1⟩ : ∃ x, ps[i + 1]? = some x := ⟨_, List.getElem?_eq_getElem (by omega)⟩
        obtain ⟨p2, hp2⟩ : ∃ x, ps[i + 2]? = some x := ⟨_, List.getElem?_eq_getElem (by omega)⟩
        have r0 := hps p0 (List.mem_of_getElem? hp0)
        have r1 := hps p1 (List.mem_of_getElem? hp1)
        have r2 := hps p2 (List.mem_of_getElem? hp2)
        obtain ⟨a, ha, hal⟩ := idx_nat (k := j) (by omega) r0.1
        obtain ⟨b, hb, hbl⟩ := idx_nat (k := j) (by omega) r1.1
        (repeat (first | refine gi_seq ?_ | refine gi_skip ?_ | refine gi_block ?_))
        refine gi_drawM [] [(0, .p), (1, .p), (2, .p), (5, .p), (7, .p), (8, .p), (9, .p), (10, .p), (13, .p), (3, .t), (4, .p), (6, .p), (15, .p), (11, .t), (12, .p), (14, .p), (16, .p)] [0, 0, 3, 4, 8, 0, 48, 0, 0, 256, 640, 1024, 2048, 0, 12288, 127, 65535] [0, 0, 3, 4, 8, 0, 48, 0, 0, 256, 640, 1024, 2048, 0, 12288, 64, 16384] hm rfl (by kernel_rfl) (fun w1 K => ?_)
        (repeat ((refine r_op ?_; refine r_pure hT rfl rfl rfl rfl rfl rfl ?_)))
        refine r_idx (row := [.v (.int .u8 p0)]) hT rfl rfl rfl rfl rfl rfl rfl rfl rfl rfl rfl rfl (by omega) (by simp [hp0]) ?_
        (repeat ((refine r_op ?_; refine r_pure hT rfl rfl rfl rfl rfl rfl ?_)))
        refine r_idx (row := [.v (.int .u8 p1)]) hT rfl rfl rfl rfl rfl rfl rfl rfl rfl rfl rfl rfl (by rw [wr_i64 (by omega) (by omega)]; omega) (by rw [wr_i64 (by omega) (by omega), show ((i : Int) + 1).toNat = i + 1 by omega]; simp [hp1]) ?_
        (repeat ((refine r_op ?_; first | refine r_pure hT rfl rfl rfl rfl rfl rfl ?_ | refine r_load hT rfl rfl rfl rfl rfl rfl rfl rfl rfl ?_)))
        refine r_rem (n := a) (p' := (j : Int)) rfl rfl rfl rfl rfl rfl rfl rfl (by omega) (by rw [wr_i64 (n := p0) (by omega) (by omega), ha]) ?_
        (repeat ((refine r_op ?_; first | refine r_pure hT rfl rfl rfl rfl rfl rfl ?_ | refine r_load hT rfl rfl rfl rfl rfl rfl rfl rfl rfl ?_)))
        refine r_rem (n := b) (p' := (j : Int)) rfl rfl rfl rfl rfl rfl rfl rfl (by omega) (by rw [wr_i64 (n := p1) (by omega) (by omega), hb]) ?_
        (repeat (first | refine r_end ?_ | (refine r_op ?_; refine r_pure hT rfl rfl rfl rfl rfl rfl ?_) | refine gi_seq ?_ | refine gi_plain ?_))
        refine gi_eq rfl (fun h5 => ?_) (fun h5 => ?_)
        · (repeat (first | refine r_end ?_ | (refine r_op ?_; refine r_pure hT rfl rfl rfl rfl rfl rfl ?_) | refine gi_plain ?_ | refine gi_exit rfl ?_))
          refine next (i + 3, t, gs) _ _ _ ⟨by simp only; omega, by simp only; omega, hG.mono (by simp only; omega)⟩ (by simp only; omega) ⟨?_, rfl, rfl, rfl, rfl, rfl, rfl, trivial⟩ trivial ⟨rfl, trivial⟩
          show some (I (wr .i64 ((i : Int) + 3))) = _
          rw [wr_i64 (by omega) (by omega)]
          simp
        (repeat (first | (refine r_op ?_; refine r_pure hT rfl rfl rfl rfl rfl rfl ?_) | refine gi_seq ?_ | refine gi_plain ?_ | refine gi_skip ?_))
        refine r_idx (row := [.v (.int .u8 p2)]) hT rfl rfl rfl rfl rfl rfl rfl rfl rfl rfl rfl rfl (by rw [wr_i64 (by omega) (by omega)]; omega) (by rw [wr_i64 (by omega) (by omega), show ((i : Int) + 2).toNat = i + 2 by omega]; simp [hp2]) ?_
        (repeat (first | refine r_end ?_ | (refine r_op ?_; first | refine r_pure hT rfl rfl rfl rfl rfl rfl ?_ | refine r_load hT rfl rfl rfl rfl rfl rfl rfl rfl rfl ?_) | refine gi_seq ?_))
        obtain ⟨c, hc⟩ : ∃ c : Int, c = wr .i64 (1 + rm (wr .i64 p2) 5) := ⟨_, rfl⟩
        have hcr : 0 ≤ c ∧ c ≤ 6 := by rw [hc, wr_i64 (n := p2) (by omega) (by omega)]; exact cost_rm 5 r2.1 (by omega) (by omega)
        refine gi_turn (d := 16) (y := I c) rfl (by rw [hc]) ?_
        obtain ⟨xa, hxa⟩ : ∃ x, gs[a]? = some x := ⟨_, List.getElem?_eq_getElem (by omega)⟩
        have hla := (hG.el a xa hxa).2.2
        (repeat (first | (refine r_op ?_; refine r_pure hT rfl rfl rfl rfl rfl rfl ?_) | refine gi_plain ?_))
        refine r_idxS hT rfl rfl rfl rfl rfl rfl rfl rfl rfl rfl rfl rfl rfl (by omega) (by show a < ((gs).map Ls.rowO).length; simp only [List.length_map, List.length_set, List.length_append]; omega) ?_
        (repeat ((refine r_op ?_; refine r_pure hT rfl rfl rfl rfl rfl rfl ?_)))
        refine r_takeS (row := xa.rowO) hT rfl rfl rfl rfl rfl rfl rfl rfl (by show ((gs).map Ls.rowO)[a]? = _; rw [List.getElem?_map, hxa]; rfl) rfl rfl rfl rfl ?_
        (repeat ((refine r_op ?_; first | refine r_pure hT rfl rfl rfl rfl rfl rfl ?_ | refine r_lit hT rfl rfl rfl rfl rfl rfl rfl rfl rfl rfl rfl rfl rfl ?_)))
        refine r_append hT rfl rfl rfl rfl rfl rfl rfl rfl rfl rfl rfl rfl rfl rfl rfl rfl rfl (by simp only [List.length_cons, List.length_nil, List.length_map, maxLen]; exact ⟨by omega, by show _ * 32 ≤ _; omega⟩) ?_
        skip
        refine r_idxS hT rfl rfl rfl rfl rfl rfl rfl rfl rfl rfl rfl rfl rfl (by omega) (by show a < (((gs).map Ls.rowO).set a (xa.rowO.set 8 .any)).length; simp only [List.length_map, List.length_set, List.length_append]; omega) ?_
        (repeat ((refine r_op ?_; refine r_pure hT rfl rfl rfl rfl rfl rfl ?_)))
        refine r_giveS (row := xa.rowO.set 8 .any) hT rfl rfl rfl rfl rfl rfl rfl rfl rfl rfl rfl rfl rfl rfl (List.getElem?_set_self (by simp only [List.length_map, List.length_append]; omega)) rfl ?_
        refine r_eqS _ (eO_link (a := a) xa ⟨_, _, _, _⟩ _) ?_
        have hG2 := hG.add hxa (lk1 (i := wr .i64 ((b : Int) + 1)) (d := wr .i64 (1000 + (i : Int))) (c := c) ⟨hcr.1, by omega⟩)
        generalize gs.set a (xa.add _) = g2 at hG2 ⊢
        have hgl2 := hG2.len
        obtain ⟨xb, hxb⟩ : ∃ x, g2[b]? = some x := ⟨_, List.getElem?_eq_getElem (by omega)⟩
        have hlb := (hG2.el b xb hxb).2.2
        have hcr2 : 0 ≤ wr .i64 (c + rm i 3) ∧ wr .i64 (c + rm i 3) ≤ 10 := by
          rw [rm_pos (by omega)]
          have h6 := Int.emod_nonneg (i : Int) (show (3 : Int) ≠ 0 by omega)
          have h7 := Int.emod_lt_of_pos (i : Int) (show (0 : Int) < 3 by omega)
          rw [wr_i64 (by omega) (by omega)]; omega
        (repeat (first | refine r_end ?_ | (refine r_op ?_; refine r_pure hT rfl rfl rfl rfl rfl rfl ?_) | refine gi_seq ?_ | refine gi_plain ?_))
        refine r_case (d := 95) rfl (fun c2 => ?_) (fun c2 => ?_)
        · (repeat (first | refine r_end ?_ | (refine r_op ?_; first | refine r_pure hT rfl rfl rfl rfl rfl rfl ?_ | refine r_off rfl rfl rfl rfl rfl ?_) | refine gi_plain ?_ | (refine gi_cnd ?_; first | refine gi_true rfl ?_ | refine gi_false rfl ?_)))
          refine r_idxS hT rfl rfl rfl rfl rfl rfl rfl rfl rfl rfl rfl rfl rfl (by omega) (by show b < ((g2).map Ls.rowO).length; simp only [List.length_map, List.length_set, List.length_append]; omega) ?_
          (repeat ((refine r_op ?_; refine r_pure hT rfl rfl rfl rfl rfl rfl ?_)))
          refine r_takeS (row := xb.rowO) hT rfl rfl rfl rfl rfl rfl rfl rfl (by show ((g2).map Ls.rowO)[b]? = _; rw [List.getElem?_map, hxb]; rfl) rfl rfl rfl rfl ?_
          (repeat ((refine r_op ?_; first | refine r_pure hT rfl rfl rfl rfl rfl rfl ?_ | refine r_lit hT rfl rfl rfl rfl rfl rfl rfl rfl rfl rfl rfl rfl rfl ?_)))
          refine r_append hT rfl rfl rfl rfl rfl rfl rfl rfl rfl rfl rfl rfl rfl rfl rfl rfl rfl (by simp only [List.length_cons, List.length_nil, List.length_map, maxLen]; exact ⟨by omega, by show _ * 32 ≤ _; omega⟩) ?_
          skip
          refine r_idxS hT rfl rfl rfl rfl rfl rfl rfl rfl rfl rfl rfl rfl rfl (by omega) (by show b < (((g2).map Ls.rowO).set b (xb.rowO.set 8 .any)).length; simp only [List.length_map, List.length_set, List.length_append]; omega) ?_
          (repeat ((refine r_op ?_; refine r_pure hT rfl rfl rfl rfl rfl rfl ?_)))
          refine r_giveS (row := xb.rowO.set 8 .any) hT rfl rfl rfl rfl rfl rfl rfl rfl rfl rfl rfl rfl rfl rfl (List.getElem?_set_self (by simp only [List.length_map, List.length_append]; omega)) rfl ?_
          refine r_eqS _ (eO_link (a := b) xb ⟨_, _, _, _⟩ _) ?_
          have hG3 := hG2.add hxb (lk1 (i := wr .i64 ((a : Int) + 1)) (d := wr .i64 (2000 + (i : Int))) (c := wr .i64 (c + rm i 3)) hcr2)
          generalize g2.set b (xb.add _) = g3 at hG3 ⊢
          (repeat (first | refine r_end ?_ | (refine r_op ?_; refine r_pure hT rfl rfl rfl rfl rfl rfl ?_) | refine gi_plain ?_ | refine gi_inBlock ?_))
          refine next (i + 3, t + 1, g3) _ _ _ ⟨by simp only; omega, by simp only; omega, hG3.mono (by simp only; omega)⟩ (by simp only; omega) ⟨?_, ?_, rfl, rfl, rfl, rfl, rfl, trivial⟩ trivial ⟨rfl, trivial⟩
          · show some (I (wr .i64 ((i : Int) + 3))) = _
            rw [wr_i64 (by omega) (by omega)]
            simp
          · show some (I (wr .i64 ((t : Int) + 1))) = _
            rw [wr_i64 (by omega) (by omega)]
            simp
        · rw [leB_eq] at c2
          have c2 := of_decide_eq_false c2
          rw [List.length_map] at c2
          simp only at c2
          obtain ⟨o, ho⟩ : ∃ o, one[t]? = some o := ⟨_, List.getElem?_eq_getElem (by omega)⟩
          (repeat ((refine r_op ?_; refine r_pure hT rfl rfl rfl rfl rfl rfl ?_)))
          refine r_idx (row := [.v (.bool o)]) hT rfl rfl rfl rfl rfl rfl rfl rfl rfl rfl rfl rfl (by omega) (by simp [ho]) ?_
          (repeat (first | refine r_end ?_ | (refine r_op ?_; first | refine r_pure hT rfl rfl rfl rfl rfl rfl ?_ | refine r_load hT rfl rfl rfl rfl rfl rfl rfl rfl rfl ?_)))
          refine gi_cond rfl (fun c3 => ?_) (fun c3 => ?_)
          · (repeat (first | (refine r_op ?_; refine r_pure hT rfl rfl rfl rfl rfl rfl ?_) | refine gi_plain ?_))
            refine r_idxS hT rfl rfl rfl rfl rfl rfl rfl rfl rfl rfl rfl rfl rfl (by omega) (by show b < ((g2).map Ls.rowO).length; simp only [List.length_map, List.length_set, List.length_append]; omega) ?_
            (repeat ((refine r_op ?_; refine r_pure hT rfl rfl rfl rfl rfl rfl ?_)))
            refine r_takeS (row := xb.rowO) hT rfl rfl rfl rfl rfl rfl rfl rfl (by show ((g2).map Ls.rowO)[b]? = _; rw [List.getElem?_map, hxb]; rfl) rfl rfl rfl rfl ?_
            (repeat ((refine r_op ?_; first | refine r_pure hT rfl rfl rfl rfl rfl rfl ?_ | refine r_lit hT rfl rfl rfl rfl rfl rfl rfl rfl rfl rfl rfl rfl rfl ?_)))
            refine r_append hT rfl rfl rfl rfl rfl rfl rfl rfl rfl rfl rfl rfl rfl rfl rfl rfl rfl (by simp only [List.length_cons, List.length_nil, List.length_map, maxLen]; exact ⟨by omega, by show _ * 32 ≤ _; omega⟩) ?_
            skip
            refine r_idxS hT rfl rfl rfl rfl rfl rfl rfl rfl rfl rfl rfl rfl rfl (by omega) (by show b < (((g2).map Ls.rowO).set b (xb.rowO.set 8 .any)).length; simp only [List.length_map, List.length_set, List.length_append]; omega) ?_
            (repeat ((refine r_op ?_; refine r_pure hT rfl rfl rfl rfl rfl rfl ?_)))
            refine r_giveS (row := xb.rowO.set 8 .any) hT rfl rfl rfl rfl rfl rfl rfl rfl rfl rfl rfl rfl rfl rfl (List.getElem?_set_self (by simp only [List.length_map, List.length_append]; omega)) rfl ?_
            refine r_eqS _ (eO_link (a := b) xb ⟨_, _, _, _⟩ _) ?_
            have hG3 := hG2.add hxb (lk1 (i := wr .i64 ((a : Int) + 1)) (d := wr .i64 (2000 + (i : Int))) (c := wr .i64 (c + rm i 3)) hcr2)
            generalize g2.set b (xb.add _) = g3 at hG3 ⊢
            (repeat (first | refine r_end ?_ | (refine r_op ?_; refine r_pure hT rfl rfl rfl rfl rfl rfl ?_) | refine gi_plain ?_ | refine gi_inBlock ?_))
            refine next (i + 3, t + 1, g3) _ _ _ ⟨by simp only; omega, by simp only; omega, hG3.mono (by simp only; omega)⟩ (by simp only; omega) ⟨?_, ?_, rfl, rfl, rfl, rfl, rfl, trivial⟩ trivial ⟨rfl, trivial⟩
            · show some (I (wr .i64 ((i : Int) + 3))) = _
              rw [wr_i64 (by omega) (by omega)]
              simp
            · show some (I (wr .i64 ((t : Int) + 1))) = _
              rw [wr_i64 (by omega) (by omega)]
              simp
          · (repeat (first | refine r_end ?_ | (refine r_op ?_; refine r_pure hT rfl rfl rfl rfl rfl rfl ?_) | refine gi_plain ?_ | refine gi_skip ?_ | refine gi_inBlock ?_))
            refine next (i + 3, t + 1, g2) _ _ _ ⟨by simp only; omega, by simp only; omega, hG2.mono (by simp only; omega)⟩ (by simp only; omega) ⟨?_, ?_, rfl, rfl, rfl, rfl, rfl, trivial⟩ trivial ⟨rfl, trivial⟩
            · show some (I (wr .i64 ((i : Int) + 3))) = _
              rw [wr_i64 (by omega) (by omega)]
              simp
            · show some (I (wr .i64 ((t : Int) + 1))) = _
              rw [wr_i64 (by omega) (by omega)]
              simp
      · (repeat (first | refine gi_seq ?_ | refine gi_exit rfl ?_))
        exact fin () _ _ _ trivial ⟨rfl, rfl, rfl, rfl, rfl, rfl, trivial⟩ trivial ⟨rfl, trivial⟩
    · (repeat (first | refine r_end ?_ | (refine r_op ?_; first | refine r_pure hT rfl rfl rfl rfl rfl rfl ?_ | refine r_off rfl rfl rfl rfl rfl ?_) | refine gi_seq ?_ | refine gi_exit rfl ?_ | (refine gi_cnd ?_; first | refine gi_true rfl ?_ | refine gi_false rfl ?_)))
      exact fin () _ _ _ trivial ⟨rfl, rfl, rfl, rfl, rfl, rfl, trivial⟩ trivial ⟨rfl, trivial⟩
  case after =>
    intro _ _
    (repeat (first | refine r_end ?_ | (refine r_op ?_; refine r_pure hT rfl rfl rfl rfl rfl rfl ?_) | refine gi_plain ?_ | refine gi_block ?_))
    refine gi_loop (σ := Nat × Nat × List Ls × List Ls) (fun s => [(17, I s.1), (12, I s.2.1), (9, I j), (10, .sl 0), (1, rs8 ps), (2, rs8 qs), (3, rsB one)]) (fun _ => []) (fun s => [eO (s.2.2.1 ++ s.2.2.2)]) (fun s => s.1 ≤ 8 ∧ s.2.1 ≤ 40 + 8 * s.1 ∧ Gs j (40 + 8 * s.1) s.2.2.1 ∧ NsOk s.2.2.2 ∧ s.2.2.2.length = s.1) (fun s => 10 - s.1) (0, t, gs, []) ⟨Nat.zero_le _, by simp only; omega, hG.mono (by simp only; omega), NsOk.nil, rfl⟩ ⟨rfl, rfl, rfl, rfl, rfl, rfl, rfl, trivial⟩ trivial ⟨by rw [List.append_nil], trivial⟩ (fun _ => rfl) (fun s hs next => ?_)
    obtain ⟨i2, t, gs, ns⟩ := s
    obtain ⟨hi2, ht, hG, hN, hnl⟩ := hs
    simp only at hi2 ht hG hN hnl
    have hgl := hG.len
    (repeat (refine gi_seq ?_))
    apply gi_cut (σ := Unit) (fun _ => [(12, I t), (9, I j), (10, .sl 0), (1, rs8 ps), (2, rs8 qs), (3, rsB one)]) (fun _ => []) (fun _ => [eO (gs ++ ns)]) (fun _ => True) (fun _ => rfl)
    case first =>
      intro fin
      (repeat (first | (refine r_op ?_; refine r_pure hT rfl rfl rfl rfl rfl rfl ?_) | refine gi_plain ?_))
      refine r_case (d := 128) rfl (fun c1 => ?_) (fun c1 => ?_)
      · rw [ltB_eq] at c1
        have c1 := of_decide_eq_true c1
        rw [List.length_map] at c1
        (repeat (first | refine r_end ?_ | (refine r_op ?_; refine r_pure hT rfl rfl rfl rfl rfl rfl ?_)))
        refine gi_lt rfl (fun h4 => ?_) (fun h4 => ?_)
        · obtain ⟨p0, hp0⟩ : ∃ x, qs[i2]? = some x := ⟨_, List.getElem?_eq_getElem (by omega)⟩
          have r0 := hqs p0 (List.mem_of_getElem? hp0)
          obtain ⟨a, ha, hal⟩ := idx_nat (k := j) (by omega) r0.1
          obtain ⟨id, hid⟩ : ∃ id : Int, id = (101 + (i2 : Int)) * 256 := ⟨_, rfl⟩
          have hidw : wr .i64 (wr .i64 (101 + (i2 : Int)) * 2 ^ (min (8 : Int).toNat (IntKind.bits .i64))) = id := by
            rw [wr_i64 (n := 101 + (i2 : Int)) (by omega) (by omega), show (2 : Int) ^ (min (8 : Int).toNat (IntKind.bits .i64)) = 256 from rfl, wr_i64 (by omega) (by omega), hid]
          (repeat (first | (refine r_op ?_; refine r_pure hT rfl rfl rfl rfl rfl rfl ?_) | refine gi_seq ?_ | refine gi_plain ?_ | refine gi_skip ?_ | refine gi_block ?_))
          refine r_shl (n := id) rfl rfl rfl rfl rfl rfl rfl rfl (by decide) hidw ?_
          (repeat ((refine r_op ?_; refine r_pure hT rfl rfl rfl rfl rfl rfl ?_)))
          refine r_idx (row := [.v (.int .u8 p0)]) hT rfl rfl rfl rfl rfl rfl rfl rfl rfl rfl rfl rfl (by omega) (by simp [hp0]) ?_
          (repeat ((refine r_op ?_; first | refine r_pure hT rfl rfl rfl rfl rfl rfl ?_ | refine r_load hT rfl rfl rfl rfl rfl rfl rfl rfl rfl ?_)))
          refine r_rem (n := a) (p' := (j : Int)) rfl rfl rfl rfl rfl rfl rfl rfl (by omega) (by rw [wr_i64 (n := p0) (by omega) (by omega), ha]) ?_
          (repeat (first | refine r_end ?_ | (refine r_op ?_; first | refine r_pure hT rfl rfl rfl rfl rfl rfl ?_ | refine r_store hT rfl rfl rfl rfl rfl rfl rfl rfl rfl rfl ?_ | refine r_alloc hT rfl rfl rfl rfl rfl rfl rfl rfl rfl ?_) | refine gi_seq ?_ | refine gi_plain ?_ | refine gi_block ?_))
          refine gi_adoptH (e := 3) (sz := 1) 0 10 rfl rfl ?_
          refine gi_loop (σ := Nat × Nat × List Ls × List Int) (fun s => [(19, I s.1), (12, I s.2.1), (17, I i2), (18, .box 0 0), (9, I j), (10, .sl 0), (1, rs8 ps), (2, rs8 qs), (3, rsB one)]) (fun _ => [some (51, [I 0, I 2, I id, I (wr .i64 (1 + a)), I 0, I 0, I 0, I 0, .r (.v (.slice none 0 0)), I 24, .sl 1, .r (.v (.slice none 0 0))])]) (fun s => [eO (s.2.2.1 ++ ns), eN s.2.2.2]) (fun s => s.1 ≤ j ∧ s.2.1 ≤ 40 + 8 * i2 + s.1 ∧ Gs j (40 + 8 * i2 + s.1) s.2.2.1 ∧ s.2.2.2.length ≤ s.1) (fun s => j - s.1) (0, t, gs, []) ⟨Nat.zero_le _, ht, hG, Nat.le_refl _⟩ ⟨rfl, rfl, rfl, rfl, rfl, rfl, rfl, rfl, rfl, trivial⟩ ⟨rfl, trivial⟩ ⟨rfl, rfl, trivial⟩ (fun _ => rfl) (fun s hs next2 => ?_)
          obtain ⟨r, t, gs, rt⟩ := s
          obtain ⟨hr, ht, hG, hrt⟩ := hs
          simp only at hr ht hG hrt
          have hgl := hG.len
          (repeat (first | refine r_end ?_ | (refine r_op ?_; refine r_pure hT rfl rfl rfl rfl rfl rfl ?_) | refine gi_seq ?_ | refine gi_plain ?_))
          refine gi_lt rfl (fun h5 => ?_) (fun h5 => ?_)
          · (repeat (first | (refine r_op ?_; refine r_pure hT rfl rfl rfl rfl rfl rfl ?_) | refine gi_seq ?_ | refine gi_plain ?_ | refine gi_skip ?_ | refine gi_block ?_))
            refine r_idx (row := [.v (.int .u8 p0)]) hT rfl rfl rfl rfl rfl rfl rfl rfl rfl rfl rfl rfl (by omega) (by simp [hp0]) ?_
            (repeat ((refine r_op ?_; first | refine r_pure hT rfl rfl rfl rfl rfl rfl ?_ | refine r_load hT rfl rfl rfl rfl rfl rfl rfl rfl rfl ?_)))
            refine r_shr rfl rfl rfl rfl rfl rfl rfl rfl (by rw [wr_eq]; show 0 ≤ (IntKind.u64).wrap _; rw [IntKind.wrap_u64]; omega) rfl ?_
            (repeat (first | refine r_end ?_ | (refine r_op ?_; refine r_pure hT rfl rfl rfl rfl rfl rfl ?_)))
            refine gi_cond rfl (fun c5 => ?_) (fun c5 => ?_)
            · (repeat (first | refine r_end ?_ | (refine r_op ?_; refine r_pure hT rfl rfl rfl rfl rfl rfl ?_) | refine gi_plain ?_ | refine gi_exit rfl ?_))
              refine next2 (r + 1, t, gs, rt) _ _ _ ⟨by simp only; omega, by simp only; omega, hG.mono (by simp only; omega), by simp only; omega⟩ (by simp only; omega) ⟨?_, rfl, rfl, rfl, rfl, rfl, rfl, rfl, rfl, trivial⟩ ⟨rfl, trivial⟩ ⟨rfl, rfl, trivial⟩
              show some (I (wr .i64 ((r : Int) + 1))) = _
              rw [wr_i64 (by omega) (by omega)]
              simp
            (repeat (first | (refine r_op ?_; first | refine r_pure hT rfl rfl rfl rfl rfl rfl ?_ | refine r_load hT rfl rfl rfl rfl rfl rfl rfl rfl rfl ?_ | refine r_lit hT rfl rfl rfl rfl rfl rfl rfl rfl rfl rfl rfl rfl rfl ?_) | refine gi_seq ?_ | refine gi_plain ?_ | refine gi_skip ?_))
            refine r_append hT rfl rfl rfl rfl rfl rfl rfl rfl rfl rfl rfl rfl rfl rfl rfl rfl rfl (by simp only [List.length_cons, List.length_nil, List.length_map, maxLen]; exact ⟨by omega, by show _ * 8 ≤ _; omega⟩) ?_
            (repeat (first | refine r_end ?_ | (refine r_op ?_; first | refine r_pure hT rfl rfl rfl rfl rfl rfl ?_ | refine r_store hT rfl rfl rfl rfl rfl rfl rfl rfl rfl rfl ?_) | refine gi_seq ?_))
            refine gi_pick [0] [0, 1] rfl rfl rfl rfl rfl ?_
            refine gi_eqS [eO (gs ++ ns), eN (rt ++ [wr .i64 ((r : Int) + 1)])] (by rw [eN, List.map_append]; rfl) ?_
            obtain ⟨xr, hxr⟩ : ∃ x, gs[r]? = some x := ⟨_, List.getElem?_eq_getElem (by omega)⟩
            have hlr := (hG.el r xr hxr).2.2
            have hcr : 0 ≤ wr .i64 (1 + rm (wr .i64 ((i2 : Int) + r)) 4) ∧ wr .i64 (1 + rm (wr .i64 ((i2 : Int) + r)) 4) ≤ 6 := by rw [wr_i64 (n := (i2 : Int) + r) (by omega) (by omega)]; exact cost_rm 4 (by omega) (by omega) (by omega)
            (repeat (first | (refine r_op ?_; refine r_pure hT rfl rfl rfl rfl rfl rfl ?_) | refine gi_plain ?_))
            refine r_case (d := 172) rfl (fun c2 => ?_) (fun c2 => ?_)
            · (repeat (first | refine r_end ?_ | (refine r_op ?_; first | refine r_pure hT rfl rfl rfl rfl rfl rfl ?_ | refine r_off rfl rfl rfl rfl rfl ?_) | refine gi_plain ?_ | (refine gi_cnd ?_; first | refine gi_true rfl ?_ | refine gi_false rfl ?_)))
              refine r_idxS hT rfl rfl rfl rfl rfl rfl rfl rfl rfl rfl rfl rfl rfl (by omega) (by show r < ((gs ++ ns).map Ls.rowO).length; simp only [List.length_map, List.length_set, List.length_append]; omega) ?_
              (repeat ((refine r_op ?_; refine r_pure hT rfl rfl rfl rfl rfl rfl ?_)))
              refine r_takeS (row := xr.rowO) hT rfl rfl rfl rfl rfl rfl rfl rfl (by show ((gs ++ ns).map Ls.rowO)[r]? = _; rw [List.getElem?_map, List.getElem?_append_left (by omega), hxr]; rfl) rfl rfl rfl rfl ?_
              (repeat ((refine r_op ?_; refine r_pure hT rfl rfl rfl rfl rfl rfl ?_)))
              refine r_shl (n := id) rfl rfl rfl rfl rfl rfl rfl rfl (by decide) hidw ?_
              (repeat ((refine r_op ?_; refine r_pure hT rfl rfl rfl rfl rfl rfl ?_)))
              refine r_shl (n := id) rfl rfl rfl rfl rfl rfl rfl rfl (by decide) hidw ?_
              (repeat ((refine r_op ?_; first | refine r_pure hT rfl rfl rfl rfl rfl rfl ?_ | refine r_lit hT rfl rfl rfl rfl rfl rfl rfl rfl rfl rfl rfl rfl rfl ?_)))
              refine r_append hT rfl rfl rfl rfl rfl rfl rfl rfl rfl rfl rfl rfl rfl rfl rfl rfl rfl (by simp only [List.length_cons, List.length_nil, List.length_map, maxLen]; exact ⟨by omega, by show _ * 32 ≤ _; omega⟩) ?_
              skip
              refine r_idxS hT rfl rfl rfl rfl rfl rfl rfl rfl rfl rfl rfl rfl rfl (by omega) (by show r < (((gs ++ ns).map Ls.rowO).set r (xr.rowO.set 8 .any)).length; simp only [List.length_map, List.length_set, List.length_append]; omega) ?_
              (repeat ((refine r_op ?_; refine r_pure hT rfl rfl rfl rfl rfl rfl ?_)))
              refine r_giveS (row := xr.rowO.set 8 .any) hT rfl rfl rfl rfl rfl rfl rfl rfl rfl rfl rfl rfl rfl rfl (List.getElem?_set_self (by simp only [List.length_map, List.length_append]; omega)) rfl ?_
              refine r_eqS _ (eO_link2 (a := r) (gs := gs) (ns := ns) (by omega) xr ⟨_, _, _, _⟩ _) ?_
              have hG3 := hG.add hxr (lk2 (i := id) (d := wr .i64 (wr .i64 (id + 1) + r)) (c := wr .i64 (1 + rm (wr .i64 ((i2 : Int) + r)) 4)) ⟨hcr.1, by omega⟩)
              generalize gs.set r (xr.add _) = g3 at hG3 ⊢
              (repeat (first | refine r_end ?_ | (refine r_op ?_; refine r_pure hT rfl rfl rfl rfl rfl rfl ?_) | refine gi_plain ?_ | refine gi_inBlock ?_))
              refine next2 (r + 1, t + 1, g3, rt ++ [wr .i64 ((r : Int) + 1)]) _ _ _ ⟨by simp only; omega, by simp only; omega, hG3.mono (by simp only; omega), by simp only [List.length_append, List.length_singleton]; omega⟩ (by simp only; omega) ⟨?_, ?_, rfl, rfl, rfl, rfl, rfl, rfl, rfl, trivial⟩ ⟨rfl, trivial⟩ ⟨rfl, rfl, trivial⟩
              · show some (I (wr .i64 ((r : Int) + 1))) = _
                rw [wr_i64 (by omega) (by omega)]
                simp
              · show some (I (wr .i64 ((t : Int) + 1))) = _
                rw [wr_i64 (by omega) (by omega)]
                simp
            · rw [leB_eq] at c2
              have c2 := of_decide_eq_false c2
              rw [List.length_map] at c2
              simp only at c2
              obtain ⟨o, ho⟩ : ∃ o, one[t]? = some o := ⟨_, List.getElem?_eq_getElem (by omega)⟩
              (repeat ((refine r_op ?_; refine r_pure hT rfl rfl rfl rfl rfl rfl ?_)))
              refine r_idx (row := [.v (.bool o)]) hT rfl rfl rfl rfl rfl rfl rfl rfl rfl rfl rfl rfl (by omega) (by simp [ho]) ?_
              (repeat (first | refine r_end ?_ | (refine r_op ?_; first | refine r_pure hT rfl rfl rfl rfl rfl rfl ?_ | refine r_load hT rfl rfl rfl rfl rfl rfl rfl rfl rfl ?_)))
              refine gi_cond rfl (fun c3 => ?_) (fun c3 => ?_)
              · (repeat (first | (refine r_op ?_; refine r_pure hT rfl rfl rfl rfl rfl rfl ?_) | refine gi_plain ?_))
                refine r_idxS hT rfl rfl rfl rfl rfl rfl rfl rfl rfl rfl rfl rfl rfl (by omega) (by show r < ((gs ++ ns).map Ls.rowO).length; simp only [List.length_map, List.length_set, List.length_append]; omega) ?_
                (repeat ((refine r_op ?_; refine r_pure hT rfl rfl rfl rfl rfl rfl ?_)))
                refine r_takeS (row := xr.rowO) hT rfl rfl rfl rfl rfl rfl rfl rfl (by show ((gs ++ ns).map Ls.rowO)[r]? = _; rw [List.getElem?_map, List.getElem?_append_left (by omega), hxr]; rfl) rfl rfl rfl rfl ?_
                (repeat ((refine r_op ?_; refine r_pure hT rfl rfl rfl rfl rfl rfl ?_)))
                refine r_shl (n := id) rfl rfl rfl rfl rfl rfl rfl rfl (by decide) hidw ?_
                (repeat ((refine r_op ?_; refine r_pure hT rfl rfl rfl rfl rfl rfl ?_)))
                refine r_shl (n := id) rfl rfl rfl rfl rfl rfl rfl rfl (by decide) hidw ?_
                (repeat ((refine r_op ?_; first | refine r_pure hT rfl rfl rfl rfl rfl rfl ?_ | refine r_lit hT rfl rfl rfl rfl rfl rfl rfl rfl rfl rfl rfl rfl rfl ?_)))
                refine r_append hT rfl rfl rfl rfl rfl rfl rfl rfl rfl rfl rfl rfl rfl rfl rfl rfl rfl (by simp only [List.length_cons, List.length_nil, List.length_map, maxLen]; exact ⟨by omega, by show _ * 32 ≤ _; omega⟩) ?_
                skip
                refine r_idxS hT rfl rfl rfl rfl rfl rfl rfl rfl rfl rfl rfl rfl rfl (by omega) (by show r < (((gs ++ ns).map Ls.rowO).set r (xr.rowO.set 8 .any)).length; simp only [List.length_map, List.length_set, List.length_append]; omega) ?_
                (repeat ((refine r_op ?_; refine r_pure hT rfl rfl rfl rfl rfl rfl ?_)))
                refine r_giveS (row := xr.rowO.set 8 .any) hT rfl rfl rfl rfl rfl rfl rfl rfl rfl rfl rfl rfl rfl rfl (List.getElem?_set_self (by simp only [List.length_map, List.length_append]; omega)) rfl ?_
                refine r_eqS _ (eO_link2 (a := r) (gs := gs) (ns := ns) (by omega) xr ⟨_, _, _, _⟩ _) ?_
                have hG3 := hG.add hxr (lk2 (i := id) (d := wr .i64 (wr .i64 (id + 1) + r)) (c := wr .i64 (1 + rm (wr .i64 ((i2 : Int) + r)) 4)) ⟨hcr.1, by omega⟩)
                generalize gs.set r (xr.add _) = g3 at hG3 ⊢
                (repeat (first | refine r_end ?_ | (refine r_op ?_; refine r_pure hT rfl rfl rfl rfl rfl rfl ?_) | refine gi_plain ?_ | refine gi_inBlock ?_))
                refine next2 (r + 1, t + 1, g3, rt ++ [wr .i64 ((r : Int) + 1)]) _ _ _ ⟨by simp only; omega, by simp only; omega, hG3.mono (by simp only; omega), by simp only [List.length_append, List.length_singleton]; omega⟩ (by simp only; omega) ⟨?_, ?_, rfl, rfl, rfl, rfl, rfl, rfl, rfl, trivial⟩ ⟨rfl, trivial⟩ ⟨rfl, rfl, trivial⟩
                · show some (I (wr .i64 ((r : Int) + 1))) = _
                  rw [wr_i64 (by omega) (by omega)]
                  simp
                · show some (I (wr .i64 ((t : Int) + 1))) = _
                  rw [wr_i64 (by omega) (by omega)]
                  simp
              · (repeat (first | refine r_end ?_ | (refine r_op ?_; refine r_pure hT rfl rfl rfl rfl rfl rfl ?_) | refine gi_plain ?_ | refine gi_skip ?_ | refine gi_inBlock ?_))
                refine next2 (r + 1, t + 1, gs, rt ++ [wr .i64 ((r : Int) + 1)]) _ _ _ ⟨by simp only; omega, by simp only; omega, hG.mono (by simp only; omega), by simp only [List.length_append, List.length_singleton]; omega⟩ (by simp only; omega) ⟨?_, ?_, rfl, rfl, rfl, rfl, rfl, rfl, rfl, trivial⟩ ⟨rfl, trivial⟩ ⟨rfl, rfl, trivial⟩
                · show some (I (wr .i64 ((r : Int) + 1))) = _
                  rw [wr_i64 (by omega) (by omega)]
                  simp
                · show some (I (wr .i64 ((t : Int) + 1))) = _
                  rw [wr_i64 (by omega) (by omega)]
                  simp
          · (repeat (refine gi_exit rfl ?_))
            refine gi_freeze 1 rfl rfl ?_
            (repeat (first | (refine r_op ?_; first | refine r_pure hT rfl rfl rfl rfl rfl rfl ?_ | refine r_load hT rfl rfl rfl rfl rfl rfl rfl rfl rfl ?_ | refine r_lit hT rfl rfl rfl rfl rfl rfl rfl rfl rfl rfl rfl rfl rfl ?_) | refine gi_plain ?_))
            refine r_append hT rfl rfl rfl rfl rfl rfl rfl rfl rfl rfl rfl rfl rfl rfl rfl rfl rfl (by simp only [List.length_cons, List.length_nil, List.length_map, List.length_append, maxLen]; exact ⟨by omega, by show _ * 144 ≤ _; omega⟩) ?_
            (repeat (first | refine r_end ?_ | (refine r_op ?_; refine r_pure hT rfl rfl rfl rfl rfl rfl ?_) | refine gi_plain ?_ | refine gi_inBlock ?_))
            refine gi_rows 0 (se' := seO ((gs ++ ns) ++ [⟨0, 2, id, wr .i64 (1 + a), 0, 0, 0, 0, [], 24, rt, []⟩])) rfl ⟨rfl, rfl, by simp⟩ (by rw [eO_snoc (gs ++ ns) _ _ rfl]; exact rows_last (raw_le (le_same _))) ?_
            refine next (i2 + 1, t, gs, ns ++ [⟨0, 2, id, wr .i64 (1 + a), 0, 0, 0, 0, [], 24, rt, []⟩]) _ _ _ ⟨by simp only; omega, by simp only; omega, hG.mono (by simp only; omega), fun y hy => ?_, by simp only [List.length_append, List.length_singleton]; omega⟩ (by simp only; omega) ⟨?_, rfl, rfl, rfl, rfl, rfl, rfl, trivial⟩ trivial ⟨by rw [← List.append_assoc], trivial⟩
            · rcases List.mem_append.1 hy with hy | hy
              · exact hN y hy
              · rw [List.mem_singleton.1 hy]
                exact ⟨rfl, by simp only; omega, by simp only; omega, by simp only; omega, by simp only; omega⟩
            · show some (I (wr .i64 ((i2 : Int) + 1))) = _
              rw [wr_i64 (by omega) (by omega)]
              simp
        · (repeat (first | refine gi_seq ?_ | refine gi_exit rfl ?_))
          exact fin () _ _ _ trivial ⟨rfl, rfl, rfl, rfl, rfl, rfl, trivial⟩ trivial ⟨rfl, trivial⟩
      · (repeat (first | refine r_end ?_ | (refine r_op ?_; first | refine r_pure hT rfl rfl rfl rfl rfl rfl ?_ | refine r_off rfl rfl rfl rfl rfl ?_) | refine gi_seq ?_ | refine gi_exit rfl ?_ | (refine gi_cnd ?_; first | refine gi_true rfl ?_ | refine gi_false rfl ?_)))
        exact fin () _ _ _ trivial ⟨rfl, rfl, rfl, rfl, rfl, rfl, trivial⟩ trivial ⟨rfl, trivial⟩
    case after =>
      intro _ _
      (repeat (first | refine r_end ?_ | (refine r_op ?_; refine r_pure hT rfl rfl rfl rfl rfl rfl ?_) | refine gi_plain ?_ | refine gi_block ?_))
      refine gi_loop (σ := Nat × List Ls) (fun s => [(20, I s.1), (9, I j), (10, .sl 0)]) (fun _ => []) (fun s => [eO (s.2 ++ ns)]) (fun s => s.1 ≤ j ∧ Gs j (110 + s.1) s.2) (fun s => j - s.1) (0, gs) ⟨Nat.zero_le _, hG.mono (by simp only; omega)⟩ ⟨rfl, rfl, rfl, trivial⟩ trivial ⟨rfl, trivial⟩ (fun _ => rfl) (fun s hs next => ?_)
      obtain ⟨r, gs⟩ := s
      obtain ⟨hr, hG⟩ := hs
      simp only at hr hG
      have hgl := hG.len
      (repeat (first | refine r_end ?_ | (refine r_op ?_; refine r_pure hT rfl rfl rfl rfl rfl rfl ?_) | refine gi_seq ?_ | refine gi_plain ?_))
      refine gi_lt rfl (fun h5 => ?_) (fun h5 => ?_)
      · obtain ⟨xr, hxr⟩ : ∃ x, gs[r]? = some x := ⟨_, List.getElem?_eq_getElem (by omega)⟩
        have hlr := (hG.el r xr hxr).2.2
        have hcr : 0 ≤ wr .i64 (1 + rm (r : Int) 3) ∧ wr .i64 (1 + rm (r : Int) 3) ≤ 6 := cost_rm 3 (by omega) (by omega) (by omega)
        obtain ⟨id, hid⟩ : ∃ id : Int, id = (201 + (r : Int)) * 256 := ⟨_, rfl⟩
        have hidw : wr .i64 (wr .i64 (201 + (r : Int)) * 2 ^ (min (8 : Int).toNat (IntKind.bits .i64))) = id := by
          rw [wr_i64 (n := 201 + (r : Int)) (by omega) (by omega), show (2 : Int) ^ (min (8 : Int).toNat (IntKind.bits .i64)) = 256 from rfl, wr_i64 (by omega) (by omega), hid]
        (repeat (first | (refine r_op ?_; refine r_pure hT rfl rfl rfl rfl rfl rfl ?_) | refine gi_seq ?_ | refine gi_plain ?_ | refine gi_skip ?_ | refine gi_block ?_))
        refine r_idxS hT rfl rfl rfl rfl rfl rfl rfl rfl rfl rfl rfl rfl rfl (by omega) (by show r < ((gs ++ ns).map Ls.rowO).length; simp only [List.length_map, List.length_set, List.length_append]; omega) ?_
        (repeat ((refine r_op ?_; refine r_pure hT rfl rfl rfl rfl rfl rfl ?_)))
        refine r_takeS (row := xr.rowO) hT rfl rfl rfl rfl rfl rfl rfl rfl (by show ((gs ++ ns).map Ls.rowO)[r]? = _; rw [List.getElem?_map, List.getElem?_append_left (by omega), hxr]; rfl) rfl rfl rfl rfl ?_
        (repeat ((refine r_op ?_; refine r_pure hT rfl rfl rfl rfl rfl rfl ?_)))
        refine r_shl (n := id) rfl rfl rfl rfl rfl rfl rfl rfl (by decide) hidw ?_
        (repeat ((refine r_op ?_; first | refine r_pure hT rfl rfl rfl rfl rfl rfl ?_ | refine r_lit hT rfl rfl rfl rfl rfl rfl rfl rfl rfl rfl rfl rfl rfl ?_)))
        refine r_append hT rfl rfl rfl rfl rfl rfl rfl rfl rfl rfl rfl rfl rfl rfl rfl rfl rfl (by simp only [List.length_cons, List.length_nil, List.length_map, maxLen]; exact ⟨by omega, by show _ * 32 ≤ _; omega⟩) ?_
        skip
        refine r_idxS hT rfl rfl rfl rfl rfl rfl rfl rfl rfl rfl rfl rfl rfl (by omega) (by show r < (((gs ++ ns).map Ls.rowO).set r (xr.rowO.set 8 .any)).length; simp only [List.length_map, List.length_set, List.length_append]; omega) ?_
        (repeat ((refine r_op ?_; refine r_pure hT rfl rfl rfl rfl rfl rfl ?_)))
        refine r_giveS (row := xr.rowO.set 8 .any) hT rfl rfl rfl rfl rfl rfl rfl rfl rfl rfl rfl rfl rfl rfl (List.getElem?_set_self (by simp only [List.length_map, List.length_append]; omega)) rfl ?_
        refine r_eqS _ (eO_link2 (a := r) (gs := gs) (ns := ns) (by omega) xr ⟨_, _, _, _⟩ _) ?_
        have hG3 := hG.add hxr (q := ⟨3, id, 4294967040, wr .i64 (1 + rm (r : Int) 3)⟩) ⟨hcr.1, by simp only; omega, fun _ => ⟨rfl, by simp only; omega, by simp only; omega, by simp only; omega⟩⟩
        generalize gs.set r (xr.add _) = g3 at hG3 ⊢
        (repeat (first | refine r_end ?_ | (refine r_op ?_; refine r_pure hT rfl rfl rfl rfl rfl rfl ?_) | refine gi_plain ?_ | refine gi_inBlock ?_))
        refine next (r + 1, g3) _ _ _ ⟨by simp only; omega, hG3.mono (by simp only; omega)⟩ (by simp only; omega) ⟨?_, rfl, rfl, trivial⟩ trivial ⟨rfl, trivial⟩
        show some (I (wr .i64 ((r : Int) + 1))) = _
        rw [wr_i64 (by omega) (by omega)]
        simp
      · (repeat (first | refine r_end ?_ | (refine r_op ?_; refine r_pure hT rfl rfl rfl rfl rfl rfl ?_) | refine gi_seq ?_ | refine gi_plain ?_ | refine gi_exit rfl ?_))
        refine gi_retX hT Try.func28 rfl [] [0] rfl rfl rfl rfl rfl rfl rfl rfl ?_
        exact ⟨gs ++ ns, ⟨j, gs, ns, hk, rfl, hG.mono (by omega), hN, by omega⟩, rfl, rfl, rfl⟩
end Go.Proofs.Ytmocggibcniggaa.Kt
namespace Go.Proofs.Ytmocggibcniggaa.Kt
open Go Kw Go.Proofs
attribute [local irreducible] Kw.GI Kw.GR Kw.FnR Kw.FnX
set_option maxHeartbeats 16000000
set_option maxRecDepth 100000
/-! ### the example: one router, one stub -/
def lk0 : Lk := ⟨3, 51456, 4294967040, 1⟩
def l0 : List Ls := [⟨0, 1, 1, 1, 0, 0, 0, 0, [lk0], 0, [], []⟩]
def l00 : Ls := ⟨0, 1, 1, 1, 0, 0, 0, 0, [], 0, [], []⟩
theorem map0 : mapL l0 = ⟨[⟨1, 1⟩], [], [⟨1, 51456, 24, 1⟩], [], []⟩ := by kernel_rfl
theorem src0 : srcF 51461 (mapL l0) = ⟨⟨1, 1⟩, 51456, 24, true⟩ := by kernel_rfl
theorem Graph0 : FnX Try.prog 28 [u8 0, rs8 [], rs8 [], rsB []] [] [] (fun r H S => r = .sl 0 ∧ H = [] ∧ S = [eO l0]) := by
  refine fnX_intro (T := TT) (n := 235) Try.func28 rfl rfl rfl (fun w X Z Y B => ?_)
  (repeat (first | refine r_end ?_ | (refine r_op ?_; refine r_pure hT rfl rfl rfl rfl rfl rfl ?_) | refine gi_seq ?_ | refine gi_plain_ne 2 rfl ?_))
  refine gi_turn (d := 9) (y := I 1) rfl (by kernel_rfl) ?_
  (repeat (first | refine r_end ?_ | (refine r_op ?_; refine r_pure hT rfl rfl rfl rfl rfl rfl ?_) | refine gi_seq ?_ | refine gi_plain ?_ | refine gi_block ?_))
  refine gi_adopt (e := 51) (sz := 12) 10 rfl ?_
  refine gi_rows 0 (se' := seO []) rfl ⟨rfl, rfl, rfl⟩ rows_nest ?_
  refine gi_loop0 ?_
  (repeat (first | refine r_end ?_ | (refine r_op ?_; refine r_pure hT rfl rfl rfl rfl rfl rfl ?_) | refine gi_seq ?_ | refine gi_plain ?_))
  refine gi_known (d := 27) (b := true) rfl (by kernel_rfl) ?_
  (repeat (first | (refine r_op ?_; first | refine r_pure hT rfl rfl rfl rfl rfl rfl ?_ | refine r_lit hT rfl rfl rfl rfl rfl rfl rfl rfl rfl rfl rfl rfl rfl ?_) | refine gi_seq ?_ | refine gi_plain ?_ | refine gi_skip ?_ | refine gi_block ?_ | (refine gi_cnd ?_; first | refine gi_true rfl ?_ | refine gi_false rfl ?_)))
  refine r_append hT rfl rfl rfl rfl rfl rfl rfl rfl rfl rfl rfl rfl rfl rfl rfl rfl rfl (by simp only [List.length_cons, List.length_nil, List.length_map, maxLen]; exact ⟨by omega, by decide⟩) ?_
  (repeat (first | refine r_end ?_ | (refine r_op ?_; refine r_pure hT rfl rfl rfl rfl rfl rfl ?_) | refine gi_inBlock ?_))
  refine gi_rows 0 (se' := seO [l00]) rfl ⟨rfl, rfl, rfl⟩ (rows_last (L := []) (raw_le (le_fs 1))) ?_
  (repeat (first | refine r_end ?_ | (refine r_op ?_; refine r_pure hT rfl rfl rfl rfl rfl rfl ?_) | refine gi_plain ?_))
  refine gi_inLoop ?_
  (repeat (first | refine r_end ?_ | (refine r_op ?_; refine r_pure hT rfl rfl rfl rfl rfl rfl ?_) | refine gi_seq ?_ | refine gi_plain ?_))
  refine gi_known (d := 27) (b := false) rfl (by kernel_rfl) ?_
  (repeat (first | refine r_end ?_ | (refine r_op ?_; refine r_pure hT rfl rfl rfl rfl rfl rfl ?_) | refine gi_seq ?_ | refine gi_plain ?_ | refine gi_block ?_ | refine gi_exit rfl ?_ | (refine gi_cnd ?_; first | refine gi_true rfl ?_ | refine gi_false rfl ?_)))
  refine gi_loop0 ?_
  (repeat (first | (refine r_op ?_; refine r_pure hT rfl rfl rfl rfl rfl rfl ?_) | refine gi_seq ?_ | refine gi_plain ?_))
  refine r_known (d := 42) (b := false) rfl (by kernel_rfl) ?_
  (repeat (first | refine r_end ?_ | (refine r_op ?_; first | refine r_pure hT rfl rfl rfl rfl rfl rfl ?_ | refine r_off rfl rfl rfl rfl rfl ?_) | refine gi_seq ?_ | refine gi_plain ?_ | refine gi_block ?_ | refine gi_exit rfl ?_ | (refine gi_cnd ?_; first | refine gi_true rfl ?_ | refine gi_false rfl ?_)))
  refine gi_loop0 ?_
  (repeat (first | (refine r_op ?_; refine r_pure hT rfl rfl rfl rfl rfl rfl ?_) | refine gi_seq ?_ | refine gi_plain ?_))
  refine r_known (d := 128) (b := false) rfl (by kernel_rfl) ?_
  (repeat (first | refine r_end ?_ | (refine r_op ?_; first | refine r_pure hT rfl rfl rfl rfl rfl rfl ?_ | refine r_off rfl rfl rfl rfl rfl ?_) | refine gi_seq ?_ | refine gi_plain ?_ | refine gi_block ?_ | refine gi_exit rfl ?_ | (refine gi_cnd ?_; first | refine gi_true rfl ?_ | refine gi_false rfl ?_)))
  refine gi_loop0 ?_
  (repeat (first | refine r_end ?_ | (refine r_op ?_; refine r_pure hT rfl rfl rfl rfl rfl rfl ?_) | refine gi_seq ?_ | refine gi_plain ?_))
  refine gi_known (d := 213) (b := true) rfl (by kernel_rfl) ?_
  (repeat (first | (refine r_op ?_; refine r_pure hT rfl rfl rfl rfl rfl rfl ?_) | refine gi_seq ?_ | refine gi_plain ?_ | refine gi_skip ?_ | refine gi_block ?_ | (refine gi_cnd ?_; first | refine gi_true rfl ?_ | refine gi_false rfl ?_)))
  refine r_idxS hT rfl rfl rfl rfl rfl rfl rfl rfl rfl rfl rfl rfl rfl (by decide) (by decide) ?_
  (repeat ((refine r_op ?_; refine r_pure hT rfl rfl rfl rfl rfl rfl ?_)))
  refine r_takeS (row := l00.rowO) hT rfl rfl rfl rfl rfl rfl rfl rfl rfl rfl rfl rfl rfl ?_
  (repeat ((refine r_op ?_; refine r_pure hT rfl rfl rfl rfl rfl rfl ?_)))
  refine r_shl (n := 51456) rfl rfl rfl rfl rfl rfl rfl rfl (by decide) (by kernel_rfl) ?_
  (repeat ((refine r_op ?_; first | refine r_pure hT rfl rfl rfl rfl rfl rfl ?_ | refine r_lit hT rfl rfl rfl rfl rfl rfl rfl rfl rfl rfl rfl rfl rfl ?_)))
  refine r_append hT rfl rfl rfl rfl rfl rfl rfl rfl rfl rfl rfl rfl rfl rfl rfl rfl rfl (by simp only [List.length_cons, List.length_nil, List.length_map, maxLen, l00]; exact ⟨by omega, by decide⟩) ?_
  skip
  refine r_idxS hT rfl rfl rfl rfl rfl rfl rfl rfl rfl rfl rfl rfl rfl (by decide) (by show 0 < 1; decide) ?_
  (repeat ((refine r_op ?_; refine r_pure hT rfl rfl rfl rfl rfl rfl ?_)))
  refine r_giveS (row := l00.rowO.set 8 .any) hT rfl rfl rfl rfl rfl rfl rfl rfl rfl rfl rfl rfl rfl rfl rfl rfl ?_
  refine r_eqS _ (eO_link2 (a := 0) (gs := [l00]) (ns := []) (by decide) l00 ⟨_, _, _, _⟩ _) ?_
  (repeat (first | refine r_end ?_ | (refine r_op ?_; refine r_pure hT rfl rfl rfl rfl rfl rfl ?_) | refine gi_plain ?_ | refine gi_inBlock ?_))
  refine gi_inLoop ?_
  (repeat (first | refine r_end ?_ | (refine r_op ?_; refine r_pure hT rfl rfl rfl rfl rfl rfl ?_) | refine gi_seq ?_ | refine gi_plain ?_))
  refine gi_known (d := 213) (b := false) rfl (by kernel_rfl) ?_
  (repeat (first | refine r_end ?_ | (refine r_op ?_; refine r_pure hT rfl rfl rfl rfl rfl rfl ?_) | refine gi_seq ?_ | refine gi_plain ?_ | refine gi_exit rfl ?_ | (refine gi_cnd ?_; first | refine gi_true rfl ?_ | refine gi_false rfl ?_)))
  refine gi_retX hT Try.func28 rfl [] [0] rfl rfl rfl rfl rfl rfl rfl rfl ?_
  refine ⟨rfl, rfl, ?_⟩
  show [eO _] = [eO l0]
  kernel_rfl
abbrev R0 : AV → Hp → Sp → Prop := fun r H S => r = .sl 0 ∧ H = [] ∧ S = [eO l0]
theorem p0G : ∀ r H1 S1, R0 r H1 S1 → stA r = true ∧ StH H1 ∧ StS S1 := by
  rintro r H S ⟨rfl, rfl, rfl⟩
  refine ⟨rfl, StH.nil, fun e he s hs => ?_⟩
  rw [List.mem_singleton] at he
  subst he
  cases hs
  exact stOLL_O l0
theorem few0 : Few l0 := ⟨by decide, fun x hx => by rw [List.mem_singleton.1 hx]; decide, fun x hx => by rw [List.mem_singleton.1 hx]; decide⟩
theorem Graph0n : FnX Try.prog 28 [u8 0, nilA, nilA, nilA] [] [] R0 :=
  fnX_args Graph0 (fun _ _ _ h => by
    have a1 := CL_setx (x := nilA) (y := rs8 []) (j := 1) (fun u hu => C_nil_rs hu) rfl h
    have a2 := CL_setx (x := nilA) (y := rs8 []) (j := 2) (fun u hu => C_nil_rs hu) rfl a1
    exact CL_setx (x := nilA) (y := rsB []) (j := 3) (fun u hu => C_nil_rs hu) rfl a2)
abbrev RReach (t : List Nd) (m : Mp) (ms : List Vt) : AV → Hp → Sp → Prop := fun r H S => r = .sl 0 ∧ H = [] ∧ ∃ o, S = [eN o] ∧ Rch t m.wl ms o
theorem pRch {t : List Nd} {m : Mp} {ms : List Vt} : ∀ r H1 S1, RReach t m ms r H1 S1 → stA r = true ∧ StH H1 ∧ StS S1 := by
  rintro r H S ⟨rfl, rfl, o, rfl, _⟩
  refine ⟨rfl, StH.nil, fun e he s hs => ?_⟩
  rw [List.mem_singleton] at he
  subst he
  cases hs
  exact stLL_N o
theorem Reach0 (m : Mp) (hw : m.wl.length < 1000000) : FnX Try.prog 23 [nilA, avMf m, nilA] [] [] (RReach [] m []) :=
  fnX_args (pReach_ok [] m [] (by decide) hw (by decide)) (fun _ _ _ h => by
    have a1 := CL_setx (x := nilA) (y := fsNd []) (j := 0) (fun u hu => C_nil_fs hu) rfl h
    exact CL_setx (x := nilA) (y := rsV []) (j := 2) (fun u hu => C_nil_rs hu) rfl a1)
theorem pSrc {s : Src} : ∀ r S1, (r = s.av ∧ S1 = []) → plainA r = true ∧ PlainS S1 := pA rfl
theorem awake23_ok : FnR Try.prog 14 [] (RB true) := by
  refine fnR_intro (T := TT) (n := 35) Try.func14 rfl rfl rfl (fun w Z => ?_)
  (repeat (first | refine r_end ?_ | (refine r_op ?_; refine r_pure hT rfl rfl rfl rfl rfl rfl ?_) | refine gi_seq ?_ | refine gi_plain ?_))
  refine r_callX [] [] (Graph0n) rfl rfl rfl rfl rfl rfl Try.func28 rfl rfl rfl rfl rfl rfl rfl p0G ?_
  rintro r H1 S1 ⟨rfl, rfl, rfl⟩
  refine r_freeze 0 rfl (frz_seO l0) ?_
  skip
  refine r_call (MapF l0 few0) rfl rfl rfl rfl rfl rfl rfl rfl Try.func15 rfl rfl rfl pMapP ?_
  rintro r S1 ⟨rfl, rfl⟩
  (repeat (first | refine r_end ?_ | (refine r_op ?_; first | refine r_store hT rfl rfl rfl rfl rfl rfl rfl rfl rfl rfl ?_ | refine r_alloc hT rfl rfl rfl rfl rfl rfl rfl rfl rfl ?_) | refine gi_seq ?_))
  refine gi_freeze 1 (L' := (mapL l0).vs.map Vt.row) rfl rfl ?_
  refine gi_freeze 2 (L' := (mapL l0).es.map Eg.row) rfl rfl ?_
  refine gi_freeze 3 (L' := (mapL l0).sb.map Sb.row) rfl rfl ?_
  refine gi_freeze 4 (L' := (mapL l0).sn.map Sn.row) rfl rfl ?_
  refine gi_freeze 5 (L' := (mapL l0).wl.map nRow) rfl rfl ?_
  refine gi_weak (F' := [(1, .box 0 0)]) (H' := [hMf (mapL l0)]) (S' := []) ⟨rfl, trivial⟩ ⟨rfl, trivial⟩ trivial rfl ?_
  (repeat (first | (refine r_op ?_; refine r_load hT rfl rfl rfl rfl rfl rfl rfl rfl rfl ?_) | refine gi_plain ?_))
  refine r_call (pSource_ok (mapL l0) 51461 (by rw [map0]; decide) (by rw [map0]; decide)) rfl rfl rfl rfl rfl rfl rfl rfl Try.func16 rfl rfl rfl pSrc ?_
  rintro r S1 ⟨rfl, rfl⟩
  rw [src0]
  (repeat (first | refine r_end ?_ | (refine r_op ?_; first | refine r_pure hT rfl rfl rfl rfl rfl rfl ?_ | refine r_load hT rfl rfl rfl rfl rfl rfl rfl rfl rfl ?_ | refine r_store hT rfl rfl rfl rfl rfl rfl rfl rfl rfl rfl ?_ | refine r_alloc hT rfl rfl rfl rfl rfl rfl rfl rfl rfl ?_) | refine gi_seq ?_ | refine gi_plain ?_))
  refine r_callX [] [] (Reach0 (mapL l0) (by rw [map0]; decide)) rfl rfl rfl rfl rfl rfl Try.func23 rfl rfl rfl rfl rfl rfl rfl pRch ?_
  rintro r H1 S1 ⟨rfl, rfl, o, rfl, ho⟩
  obtain rfl : o = [] := List.eq_nil_of_length_eq_zero ho.lo
  (repeat ((refine r_op ?_; refine r_pure hT rfl rfl rfl rfl rfl rfl ?_)))
  refine r_known (d := 19) (b := true) rfl (by kernel_rfl) ?_
  (repeat ((refine r_op ?_; first | refine r_pure hT rfl rfl rfl rfl rfl rfl ?_ | refine r_load hT rfl rfl rfl rfl rfl rfl rfl rfl rfl ?_)))
  refine r_known (d := 27) (b := true) rfl (by kernel_rfl) ?_
  (repeat ((refine r_op ?_; refine r_pure hT rfl rfl rfl rfl rfl rfl ?_)))
  refine r_known (d := 31) (b := true) rfl (by kernel_rfl) ?_
  (repeat (first | refine r_end ?_ | (refine r_op ?_; refine r_pure hT rfl rfl rfl rfl rfl rfl ?_)))
  refine gi_retW hT Try.func14 rfl rfl [] rfl rfl rfl rfl ?_
  exact ⟨by rw [eqB_eq]; rfl, rfl⟩
end Go.Proofs.Ytmocggibcniggaa.Kt
namespace Go.Proofs.Ytmocggibcniggaa.Kt
open Go Kw Go.Proofs
/-! ### the tree, as it grows -/
/-- Each Node but the first is the best one behind those ahead of it. -/
def Grown (bt : List Nd → Nd → Nd → Bool) (es : List Eg) (t : List Nd) : Prop := ∀ j, 1 ≤ j → j < t.length → bestL bt (t.take j) es = t[j]?
theorem grown_one (bt : List Nd → Nd → Nd → Bool) (es : List Eg) (n : Nd) : Grown bt es [n] := fun j h1 h2 => by
  have : j < 1 := h2
  omega
theorem grown_add {bt : List Nd → Nd → Nd → Bool} {es : List Eg} {t : List Nd} {n : Nd} (h : Grown bt es t) (hn : bestL bt t es = some n) : Grown bt es (t ++ [n]) := fun j h1 h2 => by
  rw [List.length_append, List.length_singleton] at h2
  rcases Nat.lt_or_ge j t.length with hj | hj
  · rw [List.take_append_of_le_length (by omega), List.getElem?_append_left hj]
    exact h j h1 hj
  · have : j = t.length := by omega
    subst this
    rw [List.take_left', hn] <;> simp
theorem treeN_grown {bt : List Nd → Nd → Nd → Bool} {es : List Eg} : ∀ (k : Nat) (t : List Nd), Grown bt es t → Grown bt es (treeN bt es k t) ∧ (∃ r, treeN bt es k t = t ++ r) ∧ (bestL bt (treeN bt es k t) es = none ∨ (treeN bt es k t).length = t.length + k)
  | 0, t, h => ⟨h, ⟨[], by simp [treeN]⟩, .inr rfl⟩
  | k + 1, t, h => by
    cases hb : bestL bt t es with
    | none => rw [treeN_none hb]; exact ⟨h, ⟨[], by simp⟩, .inl hb⟩
    | some n =>
      rw [treeN_some hb]
      obtain ⟨h1, ⟨r, h2⟩, h3⟩ := treeN_grown k (t ++ [n]) (grown_add h hb)
      refine ⟨h1, ⟨n :: r, by rw [h2]; simp⟩, ?_⟩
      rcases h3 with h3 | h3
      · exact .inl h3
      · right; rw [h3]; simp; omega
/-- No candidate costs less than the best. -/
def Cheap (bt : List Nd → Nd → Nd → Bool) : Prop := ∀ t a b, (bt t a b = true → a.c ≤ b.c) ∧ (bt t a b = false → b.c ≤ a.c)
theorem soon_cheap : Cheap soon := fun t a b => by
  have key : ∀ va vb, (soonF va vb a b = true → a.c ≤ b.c) ∧ (soonF va vb a b = false → b.c ≤ a.c) := fun va vb => by
    unfold soonF
    rw [notB_eq, eqB_eq, ltB_eq]
    by_cases h : a.c = b.c
    · rw [h]
      exact ⟨fun _ => Int.le_refl _, fun _ => Int.le_refl _⟩
    · have : (!(a.c == b.c)) = true := by simpa using h
      rw [this]
      refine ⟨fun h => ?_, fun h => ?_⟩
      · have := of_decide_eq_true h; omega
      · have := of_decide_eq_false h; omega
  exact key _ _
theorem best_least {bt : List Nd → Nd → Nd → Bool} (hc : Cheap bt) {t : List Nd} : ∀ {es : List Eg} {m : Option Nd} {b : Nd}, es.foldl (stepT bt t) m = some b → (∀ x, m = some x → b.c ≤ x.c) ∧ ∀ e ∈ es, ∀ n, candL t e = some n → b.c ≤ n.c
  | [], m, b, h => ⟨fun x hx => by
      have h : m = some b := h
      rw [h] at hx; cases hx; exact Int.le_refl _, fun e he => by cases he⟩
  | e :: es, m, b, h => by
    obtain ⟨h1, h2⟩ := best_least hc (es := es) h
    unfold stepT at h1
    have h3 : (∀ x, m = some x → b.c ≤ x.c) ∧ ∀ n, candL t e = some n → b.c ≤ n.c := by
      cases hn : candL t e with
      | none =>
        rw [hn] at h1
        exact ⟨h1, fun n h => by cases h⟩
      | some n =>
        rw [hn] at h1
        cases m with
        | none =>
          refine ⟨fun x hx => (nomatch hx), fun n' hn' => ?_⟩
          cases hn'
          exact h1 n rfl
        | some x =>
          simp only at h1
          have hcc := hc t n x
          cases hb : bt t n x with
          | true =>
            rw [hb] at h1
            have := h1 n rfl
            refine ⟨fun y hy => ?_, fun n' hn' => ?_⟩
            · cases hy; exact Int.le_trans this (hcc.1 hb)
            · cases hn'; exact this
          | false =>
            rw [hb] at h1
            have := h1 x rfl
            refine ⟨fun y hy => ?_, fun n' hn' => ?_⟩
            · cases hy; exact this
            · cases hn'; exact Int.le_trans this (hcc.2 hb)
    refine ⟨h3.1, fun e' he' n hn => ?_⟩
    rcases List.mem_cons.1 he' with rfl | he'
    · exact h3.2 n hn
    · exact h2 e' he' n hn
theorem best_none {bt : List Nd → Nd → Nd → Bool} {t : List Nd} : ∀ {es : List Eg} {m : Option Nd}, es.foldl (stepT bt t) m = none → m = none ∧ ∀ e ∈ es, candL t e = none
  | [], m, h => ⟨h, fun e he => by cases he⟩
  | e :: es, m, h => by
    obtain ⟨h1, h2⟩ := best_none (es := es) h
    have h3 : m = none ∧ candL t e = none := by
      unfold stepT at h1
      cases hn : candL t e with
      | none => rw [hn] at h1; exact ⟨h1, rfl⟩
      | some n =>
        rw [hn] at h1
        cases m with
        | none => cases h1
        | some x =>
          simp only at h1
          split at h1 <;> cases h1
    refine ⟨h3.1, fun e' he' => ?_⟩
    rcases List.mem_cons.1 he' with rfl | he'
    · exact h3.2
    · exact h2 e' he'
theorem cand_some {t : List Nd} {e : Eg} {n : Nd} (h : candL t e = some n) : ∃ p x, placeL t e.f = some p ∧ t[p]? = some x ∧ x.v = e.f ∧ placeL t e.t = none ∧ n = ⟨e.t, p, wr .i64 (x.c + e.c), e.d⟩ := by
  unfold candL at h
  split at h
  · rename_i p hp hq
    cases h
    obtain ⟨x, h1, h2⟩ := placeL_some hp
    exact ⟨p, x, hp, h1, h2, hq, by rw [List.getD_eq_getElem?_getD, h1]; rfl⟩
  · cases h
theorem cand_mk {t : List Nd} {e : Eg} {p : Nat} {x : Nd} (hp : placeL t e.f = some p) (hx : t[p]? = some x) (hq : placeL t e.t = none) : candL t e = some ⟨e.t, p, wr .i64 (x.c + e.c), e.d⟩ := by
  unfold candL
  rw [hp, hq]
  simp only
  rw [List.getD_eq_getElem?_getD, hx]
  rfl
section
variable {bt : List Nd → Nd → Nd → Bool} {es : List Eg} {t : List Nd}
/-- A Node behind the first one: the edge by which it came. -/
theorem Grown.edge (h : Grown bt es t) {j : Nat} (hj : 1 ≤ j) {n : Nd} (hn : t[j]? = some n) : ∃ e ∈ es, ∃ (p : Nat) (x : Nd), p < j ∧ t[p]? = some x ∧ x.v = e.f ∧ e.t = n.v ∧ n.p = p ∧ n.c = wr .i64 (x.c + e.c) ∧ n.d = e.d ∧ ∀ m ∈ t.take j, m.v ≠ n.v := by
  have hl := (List.getElem?_eq_some_iff.1 hn).1
  have hb := h j hj hl
  rw [hn] at hb
  rcases best_fold hb with hb | ⟨e, he, hc⟩
  · cases hb
  · obtain ⟨p, x, h1, h2, h3, h4, h5⟩ := cand_some hc
    have hpj : p < j := by have := placeL_lt h1; rw [List.length_take] at this; omega
    rw [List.getElem?_take, if_pos hpj] at h2
    subst h5
    exact ⟨e, he, p, x, hpj, h2, h3, rfl, rfl, rfl, rfl, placeL_none h4⟩
/-- No vertex twice. -/
theorem Grown.inj (h : Grown bt es t) {i j : Nat} {a b : Nd} (ha : t[i]? = some a) (hb : t[j]? = some b) (hv : a.v = b.v) : i = j := by
  have key : ∀ {i j : Nat} {a b : Nd}, t[i]? = some a → t[j]? = some b → i < j → a.v ≠ b.v := fun {i j a b} ha hb hij => by
    obtain ⟨_, _, _, _, _, _, _, _, _, _, _, hne⟩ := h.edge (by omega) hb
    refine hne a (List.mem_iff_getElem?.2 ⟨i, ?_⟩)
    rw [List.getElem?_take, if_pos hij]; exact ha
  rcases Nat.lt_trichotomy i j with hij | hij | hij
  · exact absurd hv (key ha hb hij)
  · exact hij
  · exact absurd hv.symm (key hb ha hij)
theorem Grown.place (h : Grown bt es t) {j : Nat} {n : Nd} (hn : t[j]? = some n) : placeL t n.v = some j :=
  placeL_at (fun i hi m hm hv => by have := h.inj hm hn hv; omega) hn rfl
/-- The costs: none below nought, not greater than so many edges. -/
theorem Grown.cost (h : Grown bt es t) {C : Int} (h0 : ∀ n, t[0]? = some n → n.c = 0) (hl : t.length ≤ 100000) (hC : C ≤ 1000000) (hes : ∀ e ∈ es, 0 ≤ e.c ∧ e.c ≤ C) : ∀ (j : Nat) (n : Nd), t[j]? = some n → 0 ≤ n.c ∧ n.c ≤ j * C := by
  intro j
  induction j using Nat.strongRecOn with
  | _ j ih =>
    intro n hn
    rcases Nat.eq_zero_or_pos j with rfl | hj
    · rw [h0 n hn]; simp
    · obtain ⟨e, he, p, x, hp, hx, _, _, _, hc, _⟩ := h.edge hj hn
      obtain ⟨h1, h2⟩ := ih p hp x hx
      obtain ⟨h3, h4⟩ := hes e he
      have hjl := (List.getElem?_eq_some_iff.1 hn).1
      have hpC : (p : Int) * C ≤ (j - 1 : Nat) * C := Int.mul_le_mul_of_nonneg_right (by omega) (by omega)
      have hjC : ((j - 1 : Nat) : Int) * C + C = (j : Int) * C := by
        rw [show ((j - 1 : Nat) : Int) = (j : Int) - 1 from by omega, Int.sub_mul, Int.one_mul]; omega
      have hb : (j : Int) * C ≤ 100000 * 1000000 := Int.le_trans (Int.mul_le_mul_of_nonneg_left hC (by omega)) (Int.mul_le_mul_of_nonneg_right (by omega) (by omega))
      rw [hc, wr_i64 (by omega) (by omega)]
      omega
/-- Who could come next costs no less than who comes. -/
theorem Grown.least (h : Grown bt es t) (hc : Cheap bt) {C : Int} (h0 : ∀ n, t[0]? = some n → n.c = 0) (hl : t.length ≤ 100000) (hC : C ≤ 1000000) (hes : ∀ e ∈ es, 0 ≤ e.c ∧ e.c ≤ C) {e : Eg} (he : e ∈ es) {a j : Nat} {x n : Nd} (haj : a < j) (hx : t[a]? = some x) (hxv : x.v = e.f) (hn : t[j]? = some n) (hnew : ∀ m ∈ t.take j, m.v ≠ e.t) : n.c ≤ x.c + e.c := by
  have hjl := (List.getElem?_eq_some_iff.1 hn).1
  have hb := h j (by omega) hjl
  rw [hn] at hb
  have hxt : (t.take j)[a]? = some x := by rw [List.getElem?_take, if_pos haj]; exact hx
  have hpl : placeL (t.take j) e.f = some a := placeL_at (fun i hi m hm hv => by
    rw [List.getElem?_take] at hm
    split at hm
    · have := h.inj hm hx (hv.trans hxv.symm); omega
    · cases hm) hxt hxv
  have hcand := cand_mk hpl hxt (placeL_no hnew)
  have := (best_least hc hb).2 e he _ hcand
  obtain ⟨c1, c2⟩ := h.cost h0 hl hC hes a x hx
  obtain ⟨c3, c4⟩ := hes e he
  have haC : (a : Int) * C ≤ 100000 * 1000000 := Int.le_trans (Int.mul_le_mul_of_nonneg_left hC (by omega)) (Int.mul_le_mul_of_nonneg_right (by omega) (by omega))
  have this : n.c ≤ wr .i64 (x.c + e.c) := this
  rwa [wr_i64 (by omega) (by omega)] at this
/-- The costs do not fall. -/
theorem Grown.rise1 (h : Grown bt es t) (hc : Cheap bt) {C : Int} (h0 : ∀ n, t[0]? = some n → n.c = 0) (hl : t.length ≤ 100000) (hC : C ≤ 1000000) (hes : ∀ e ∈ es, 0 ≤ e.c ∧ e.c ≤ C) {j : Nat} {x n : Nd} (hx : t[j]? = some x) (hn : t[j + 1]? = some n) : x.c ≤ n.c := by
  obtain ⟨e, he, p, y, hp, hy, hyv, het, _, hcn, _, hne⟩ := h.edge (by omega) hn
  obtain ⟨c1, c2⟩ := h.cost h0 hl hC hes p y hy
  obtain ⟨c3, c4⟩ := hes e he
  have hpl := (List.getElem?_eq_some_iff.1 hy).1
  have haC : (p : Int) * C ≤ 100000 * 1000000 := Int.le_trans (Int.mul_le_mul_of_nonneg_left hC (by omega)) (Int.mul_le_mul_of_nonneg_right (by omega) (by omega))
  rw [hcn, wr_i64 (by omega) (by omega)]
  rcases Nat.lt_or_ge p j with hpj | hpj
  · exact h.least hc h0 hl hC hes he hpj hy hyv hx (fun m hm => by
      rw [het]
      refine hne m ?_
      obtain ⟨i, hi⟩ := List.mem_iff_getElem?.1 hm
      rw [List.getElem?_take] at hi
      split at hi
      · exact List.mem_iff_getElem?.2 ⟨i, by rw [List.getElem?_take, if_pos (by omega)]; exact hi⟩
      · cases hi)
  · have : p = j := by omega
    subst this
    rw [hx] at hy; cases hy; omega
theorem Grown.rise (h : Grown bt es t) (hc : Cheap bt) {C : Int} (h0 : ∀ n, t[0]? = some n → n.c = 0) (hl : t.length ≤ 100000) (hC : C ≤ 1000000) (hes : ∀ e ∈ es, 0 ≤ e.c ∧ e.c ≤ C) {i : Nat} {x : Nd} (hx : t[i]? = some x) : ∀ (d : Nat) (n : Nd), t[i + d]? = some n → x.c ≤ n.c
  | 0, n, hn => by rw [Nat.add_zero, hx] at hn; cases hn; exact Int.le_refl _
  | d + 1, n, hn => by
    have hlt := (List.getElem?_eq_some_iff.1 hn).1
    have hy : t[i + d]? = some t[i + d] := List.getElem?_eq_getElem (by omega)
    exact Int.le_trans (h.rise hc h0 hl hC hes hx d _ hy) (h.rise1 hc h0 hl hC hes hy hn)
/-- No edge makes a way shorter than the tree's. -/
theorem Grown.short (h : Grown bt es t) (hc : Cheap bt) {C : Int} (h0 : ∀ n, t[0]? = some n → n.c = 0) (hl : t.length ≤ 100000) (hC : C ≤ 1000000) (hes : ∀ e ∈ es, 0 ≤ e.c ∧ e.c ≤ C) {e : Eg} (he : e ∈ es) {a b : Nat} {x y : Nd} (hx : t[a]? = some x) (hxv : x.v = e.f) (hy : t[b]? = some y) (hyv : y.v = e.t) : y.c ≤ x.c + e.c := by
  rcases Nat.lt_or_ge a b with hab | hab
  · exact h.least hc h0 hl hC hes he hab hx hxv hy (fun m hm hv => by
      obtain ⟨i, hi⟩ := List.mem_iff_getElem?.1 hm
      rw [List.getElem?_take] at hi
      split at hi
      · have := h.inj hi hy (hv.trans hyv.symm); omega
      · cases hi)
  · have := h.rise hc h0 hl hC hes hy (a - b) x (by rw [show b + (a - b) = a from by omega]; exact hx)
    have := (hes e he).1
    omega
/-- Where nobody is best no edge leads on. -/
theorem closed (hb : bestL bt t es = none) {e : Eg} (he : e ∈ es) {a : Nat} (ha : placeL t e.f = some a) : ∃ b, placeL t e.t = some b := by
  have := (best_none hb).2 e he
  unfold candL at this
  rw [ha] at this
  cases hq : placeL t e.t with
  | none => rw [hq] at this; cases this
  | some b => exact ⟨b, rfl⟩
end
/-- The tree of a map whose edges lie among its vertices ends where nobody is best. -/
theorem tree_end {bt : List Nd → Nd → Nd → Bool} {vs : List Vt} {es : List Eg} {root : Vt} (hr : root ∈ vs) (hto : ∀ e ∈ es, e.t ∈ vs) :
    Grown bt es (treeN bt es vs.length [rootN root]) ∧ (∃ r, treeN bt es vs.length [rootN root] = rootN root :: r) ∧ bestL bt (treeN bt es vs.length [rootN root]) es = none ∧ (∀ n ∈ treeN bt es vs.length [rootN root], n.v ∈ vs) ∧ ((treeN bt es vs.length [rootN root]).map Nd.v).Nodup := by
  obtain ⟨h1, ⟨r, h2⟩, h3⟩ := treeN_grown vs.length [rootN root] (grown_one bt es _)
  have hin : ∀ n ∈ treeN bt es vs.length [rootN root], n.v ∈ vs := fun n hn => by
    obtain ⟨j, hj⟩ := List.mem_iff_getElem?.1 hn
    rcases Nat.eq_zero_or_pos j with rfl | hp
    · rw [h2] at hj
      cases hj
      exact hr
    · obtain ⟨e, he, _, _, _, _, _, hv, _⟩ := h1.edge hp hj
      rw [← hv]; exact hto e he
  have hnd : ((treeN bt es vs.length [rootN root]).map Nd.v).Nodup := by
    refine List.pairwise_iff_getElem.2 (fun i j hi hj hij e => ?_)
    rw [List.length_map] at hi hj
    have := h1.inj (List.getElem?_eq_getElem hi) (List.getElem?_eq_getElem hj) (by simpa using e)
    omega
  refine ⟨h1, ⟨r, by rw [h2]; rfl⟩, ?_, hin, hnd⟩
  rcases h3 with h3 | h3
  · exact h3
  · have := pig hnd (fun x hx => by
      obtain ⟨n, hn, rfl⟩ := List.mem_map.1 hx
      exact hin n hn)
    rw [List.length_map, h3, List.length_singleton] at this
    omega
end Go.Proofs.Ytmocggibcniggaa.Kt
namespace Go.Proofs.Ytmocggibcniggaa.Kt
open Go Kw Go.Proofs
/-! ### what an edge costs -/
theorem edRs_c {l : List Ls} {v : Vt} {rt : List Int} {e : Eg} : ∀ {j : Nat}, e ∈ edRs l v rt j → e.c = 0
  | 0, h => by cases h
  | j + 1, h => by
    unfold edRs at h
    rcases List.mem_append.1 h with h | h
    · exact edRs_c h
    · split at h
      · unfold edR at h
        split at h
        · cases h
        · split at h
          · rw [List.mem_singleton.1 h]
          · cases h
      · cases h
theorem from_cost {l : List Ls} {v : Vt} {e : Eg} (h : e ∈ fromL l v) : e.c = 0 ∨ ∃ x ∈ l, ∃ k ∈ x.lk, e.c = k.c := by
  unfold fromL at h
  rcases List.mem_append.1 h with h | h
  · right
    obtain ⟨k, hk, he⟩ := List.mem_flatMap.1 h
    cases hx : findL l v with
    | none => rw [hx] at hk; cases hk
    | some x =>
      rw [hx] at hk
      refine ⟨x, find_mem hx, k, hk, ?_⟩
      rcases List.mem_append.1 he with he | he
      · unfold edK1 at he
        split at he
        · split at he
          · rw [List.mem_singleton.1 he]
          · cases he
        · cases he
      · unfold edK2 at he
        split at he
        · split at he
          · rw [List.mem_singleton.1 he]
          · cases he
        · cases he
  · exact .inl (edRs_c h)
theorem GrOk.link {n : Int} {l : List Ls} (h : GrOk n l) : ∀ x ∈ l, ∀ k ∈ x.lk, LkOk k := by
  obtain ⟨k, gs, ns, h1, rfl, h2, h3, h4⟩ := h.ex
  intro x hx q hq
  rcases List.mem_append.1 hx with hx | hx
  · obtain ⟨j, hj⟩ := List.mem_iff_getElem?.1 hx
    exact (h2.el j x hj).2.1 q hq
  · rw [(h3 x hx).1] at hq; cases hq
theorem GrOk.cost {n : Int} {l : List Ls} (h : GrOk n l) : ∀ e ∈ (mapL l).es, 0 ≤ e.c ∧ e.c ≤ 10 := fun e he => by
  obtain ⟨v, _, hv⟩ := List.mem_flatMap.1 he
  rcases from_cost hv with h0 | ⟨x, hx, k, hk, h0⟩
  · omega
  · have := h.link x hx k hk
    rw [h0]; exact ⟨this.1, this.2.1⟩
/-- The tree of a map, from one of its vertices. -/
structure Tr (l : List Ls) (v : Vt) (t : List Nd) : Prop where
  gr : Grown soon (mapL l).es t
  hd : t[0]? = some (rootN v)
  en : bestL soon t (mapL l).es = none
  len : t.length ≤ 100000
  vs : ∀ n ∈ t, n.v ∈ (mapL l).vs
  nd : (t.map Nd.v).Nodup
theorem tr_of {l : List Ls} (h : Few l) {v : Vt} (hv : v ∈ (mapL l).vs) : Tr l v (refTree (mapL l) v) := by
  have hr : refTree (mapL l) v = treeN soon (mapL l).es (mapL l).vs.length [rootN v] := by
    unfold refTree
    rw [List.any_eq_true.2 ⟨v, hv, decide_eq_true rfl⟩]
  have hl := refTree_len (mapL l) v
  have := map_vs h
  obtain ⟨h1, ⟨r, h2⟩, h3, h4, h5⟩ := tree_end (bt := soon) (es := (mapL l).es) hv (fun e he => (map_to he).1)
  rw [← hr] at h1 h2 h3 h4 h5
  exact ⟨h1, by rw [h2]; rfl, h3, by omega, h4, h5⟩
theorem Tr.zero {l : List Ls} {v : Vt} {t : List Nd} (h : Tr l v t) : ∀ n, t[0]? = some n → n.c = 0 := fun n hn => by
  rw [h.hd] at hn; cases hn; rfl
theorem Tr.pos {l : List Ls} {v : Vt} {t : List Nd} (h : Tr l v t) : 0 < t.length := (List.getElem?_eq_some_iff.1 h.hd).1
theorem Tr.cost {l : List Ls} {v : Vt} {t : List Nd} (h : Tr l v t) (hc : ∀ e ∈ (mapL l).es, 0 ≤ e.c ∧ e.c ≤ 1000000) {j : Nat} {n : Nd} (hn : t[j]? = some n) : 0 ≤ n.c ∧ n.c ≤ 100000000000 := by
  obtain ⟨h1, h2⟩ := h.gr.cost (C := 1000000) h.zero h.len (by omega) hc j n hn
  have := (List.getElem?_eq_some_iff.1 hn).1
  have := h.len
  omega
end Go.Proofs.Ytmocggibcniggaa.Kt
namespace Go.Proofs.Ytmocggibcniggaa.Kt
open Go Kw Go.Proofs
attribute [local irreducible] Kw.GI Kw.GR Kw.FnR Kw.FnX
set_option maxHeartbeats 16000000
set_option maxRecDepth 100000
/-! ### nobody wants all groups on Graph's maps -/
theorem wl_nil {l : List Ls} (h : ∀ x ∈ l, x.fl = 0) : (mapL l).wl = [] := by
  show (vertsL l).flatMap (wlF l) = []
  rw [List.flatMap_eq_nil_iff]
  intro v _
  have h0 : ((findL l v).getD zLs).fl = 0 := by
    cases hf : findL l v with
    | none => rfl
    | some x => exact h x (find_mem hf)
  have h1 : wl1 l v = [] := by
    unfold wl1
    rw [h0]
    have : notB (eqB (Go.bits .and .i64 0 8) 0) = false := by kernel_rfl
    rw [this]
  unfold wlF
  split
  · rfl
  · exact h1
theorem GrOk.fl {n : Int} {l : List Ls} (h : GrOk n l) : ∀ x ∈ l, x.fl = 0 := by
  obtain ⟨k, gs, ns, h1, rfl, h2, h3, h4⟩ := h.ex
  intro x hx
  rcases List.mem_append.1 hx with hx | hx
  · obtain ⟨j, hj⟩ := List.mem_iff_getElem?.1 hx
    rw [(h2.el j x hj).1]
  · rw [(h3 x hx).1]
/-! ### laws of what Reach answers -/
theorem isW_nil (n : Nd) : isW [] n = false := by unfold isW; rw [List.any_nil, Bool.and_false]
/-- Who is not one, and is some nets away, is at one at the least. -/
theorem Rch.one {t : List Nd} {ms : List Vt} {o : List Int} (h : Rch t [] ms o) : ∀ (j k : Nat) (n : Nd) (x : Int), t.length - k ≤ j → t[k]? = some n → o[k]? = some x → 0 ≤ x → 1 ≤ x
  | 0, k, n, x, hj, hn, _, _ => by have := (List.getElem?_eq_some_iff.1 hn).1; omega
  | j + 1, k, n, x, hj, hn, hx, h0 => by
    have hv := h.at_ k n x hn hx
    cases hm : isMb ms n with
    | true => rw [hv.me (isW_nil n) hm]; omega
    | false =>
      obtain ⟨k', m, y, hk, hm', _, hy, hy0, rfl⟩ := hv.or (isW_nil n) hm h0
      have := Rch.one h j k' m y (by omega) hm' hy hy0
      have := cK_b n m
      have := cP_b n
      omega
/-- The statement's step. -/
def stS (n m : Nd) : Int := if n.v.k = 1 ∧ m.v.k = 2 then 0 else 1
theorem stS_eq {n m : Nd} (h : m.v.k = 1 ∨ m.v.k = 2) : cK n m + cP n = stS n m := by
  unfold cK cP stS
  by_cases h1 : n.v.k = 1
  · rcases h with h | h
    · rw [if_pos ⟨h, h1⟩, if_pos h1, if_neg (fun hh => by have := hh.2; omega)]; rfl
    · rw [if_neg (fun hh => by have := hh.1; omega), if_pos h1, if_pos ⟨h1, h⟩]; rfl
  · rw [if_neg (fun hh => h1 hh.2), if_neg h1, if_neg (fun hh => h1 hh.1)]; rfl
theorem stS_b (n m : Nd) : 0 ≤ stS n m ∧ stS n m ≤ 1 := by unfold stS; split <;> omega
theorem Rch.kid {t : List Nd} {ms : List Vt} {o : List Int} (h : Rch t [] ms o) {i k : Nat} {n m : Nd} {x y : Int} (hn : t[i]? = some n) (hx : o[i]? = some x) (hik : i < k) (hm : t[k]? = some m) (hp : m.p = i) (hy : o[k]? = some y) (hk : m.v.k = 1 ∨ m.v.k = 2) (hy0 : 0 ≤ y) : 0 ≤ x ∧ x ≤ y + stS n m := by
  have hv := h.at_ i n x hn hx
  have h1 := h.one t.length k m y (by omega) hm hy hy0
  have hs := stS_b n m
  cases hmm : isMb ms n with
  | true => rw [hv.me (isW_nil n) hmm]; omega
  | false =>
    have := hv.le (isW_nil n) hmm k m y hik hm hp hy hy0
    rw [stS_eq hk] at this
    exact this
end Go.Proofs.Ytmocggibcniggaa.Kt
namespace Go.Proofs.Ytmocggibcniggaa.Kt
open Go Kw Go.Proofs
attribute [local irreducible] Kw.GI Kw.GR Kw.FnR Kw.FnX
set_option maxHeartbeats 8000000
set_option maxRecDepth 100000
/-! ### the reference's addresses -/
theorem rRight_ok (a : Int) : FnR Try.prog 59 [I a] (RB (okA a)) := by
  refine fnR_intro (T := TT) (n := 9) Try.func59 rfl rfl rfl (fun w Z => ?_)
  (repeat (first | refine r_end ?_ | (refine r_op ?_; refine r_pure hT rfl rfl rfl rfl rfl rfl ?_) | refine gi_seq ?_ | refine gi_plain ?_))
  refine r_case (d := 5) rfl (fun h => ?_) (fun h => ?_)
  · (repeat (first | refine r_end ?_ | (refine r_op ?_; refine r_pure hT rfl rfl rfl rfl rfl rfl ?_)))
    refine gi_retW hT Try.func59 rfl rfl [] rfl rfl rfl rfl ?_
    exact ⟨by unfold okA; rw [h]; rfl, rfl⟩
  · (repeat (first | refine r_end ?_ | (refine r_op ?_; first | refine r_pure hT rfl rfl rfl rfl rfl rfl ?_ | refine r_off rfl rfl rfl rfl rfl ?_)))
    refine gi_retW hT Try.func59 rfl rfl [] rfl rfl rfl rfl ?_
    exact ⟨by unfold okA; rw [h]; rfl, rfl⟩
def inR (a p b : Int) : Bool := okA a && (okA p && (leB 0 b && (leB b 32 && eqB (netF a b) (netF p b))))
theorem rIn_ok (a p b : Int) : FnR Try.prog 26 [I a, I p, I b] (RB (inR a p b)) := by
  have done : ∀ {x : Bool}, x = inR a p b → Bo x = Bo (inR a p b) := fun h => by rw [h]
  refine fnR_intro (T := TT) (n := 30) Try.func26 rfl rfl rfl (fun w Z => ?_)
  (repeat (first | refine r_end ?_ | (refine r_op ?_; refine r_pure hT rfl rfl rfl rfl rfl rfl ?_) | refine gi_seq ?_ | refine gi_plain ?_))
  refine r_call (rRight_ok a) rfl rfl rfl rfl rfl rfl rfl rfl Try.func59 rfl rfl rfl pB ?_
  rintro r S1 ⟨rfl, rfl⟩
  (repeat ((refine r_op ?_; refine r_pure hT rfl rfl rfl rfl rfl rfl ?_)))
  refine r_case (d := 9) rfl (fun h1 => ?_) (fun h1 => ?_)
  · (repeat ((refine r_op ?_; refine r_pure hT rfl rfl rfl rfl rfl rfl ?_)))
    refine r_call (rRight_ok p) rfl rfl rfl rfl rfl rfl rfl rfl Try.func59 rfl rfl rfl pB ?_
    rintro r S1 ⟨rfl, rfl⟩
    (repeat ((refine r_op ?_; refine r_pure hT rfl rfl rfl rfl rfl rfl ?_)))
    refine r_case (d := 13) rfl (fun h2 => ?_) (fun h2 => ?_)
    · (repeat ((refine r_op ?_; refine r_pure hT rfl rfl rfl rfl rfl rfl ?_)))
      refine r_case (d := 17) rfl (fun h3 => ?_) (fun h3 => ?_)
      · (repeat ((refine r_op ?_; refine r_pure hT rfl rfl rfl rfl rfl rfl ?_)))
        refine r_case (d := 21) rfl (fun h4 => ?_) (fun h4 => ?_)
        · (repeat ((refine r_op ?_; refine r_pure hT rfl rfl rfl rfl rfl rfl ?_)))
          refine r_call (Net_ok a b) rfl rfl rfl rfl rfl rfl rfl rfl Try.func27 rfl rfl rfl pI ?_
          rintro r S1 ⟨rfl, rfl⟩
          (repeat ((refine r_op ?_; refine r_pure hT rfl rfl rfl rfl rfl rfl ?_)))
          refine r_call (Net_ok p b) rfl rfl rfl rfl rfl rfl rfl rfl Try.func27 rfl rfl rfl pI ?_
          rintro r S1 ⟨rfl, rfl⟩
          (repeat (first | refine r_end ?_ | (refine r_op ?_; refine r_pure hT rfl rfl rfl rfl rfl rfl ?_)))
          refine gi_retW hT Try.func26 rfl rfl [] rfl rfl rfl rfl ?_
          exact ⟨by unfold inR; rw [h1, h2, h3, h4]; rfl, rfl⟩
        · (repeat (first | refine r_end ?_ | (refine r_op ?_; first | refine r_pure hT rfl rfl rfl rfl rfl rfl ?_ | refine r_off rfl rfl rfl rfl rfl ?_)))
          refine gi_retW hT Try.func26 rfl rfl [] rfl rfl rfl rfl ?_
          exact ⟨by unfold inR; rw [h1, h2, h3, h4]; rfl, rfl⟩
      · (repeat (first | refine r_end ?_ | (refine r_op ?_; first | refine r_pure hT rfl rfl rfl rfl rfl rfl ?_ | refine r_off rfl rfl rfl rfl rfl ?_)))
        refine gi_retW hT Try.func26 rfl rfl [] rfl rfl rfl rfl ?_
        exact ⟨by unfold inR; rw [h1, h2, h3]; rfl, rfl⟩
    · (repeat (first | refine r_end ?_ | (refine r_op ?_; first | refine r_pure hT rfl rfl rfl rfl rfl rfl ?_ | refine r_off rfl rfl rfl rfl rfl ?_)))
      refine gi_retW hT Try.func26 rfl rfl [] rfl rfl rfl rfl ?_
      exact ⟨by unfold inR; rw [h1, h2]; rfl, rfl⟩
  · (repeat (first | refine r_end ?_ | (refine r_op ?_; first | refine r_pure hT rfl rfl rfl rfl rfl rfl ?_ | refine r_off rfl rfl rfl rfl rfl ?_)))
    refine gi_retW hT Try.func26 rfl rfl [] rfl rfl rfl rfl ?_
    exact ⟨by unfold inR; rw [h1]; rfl, rfl⟩

def xSn (a : Int) (st : Src) (s : Sn) : Src := if inR a s.p s.b = true ∧ st.b < s.b then ⟨s.v, s.p, s.b, true⟩ else st
def xSb (a : Int) (st : Src) (s : Sb) : Src := if inR a s.p s.b = true ∧ st.b < s.b then ⟨⟨1, s.r⟩, s.p, s.b, true⟩ else st
def z1 : Src := ⟨⟨0, 0⟩, 0, -1, false⟩
def xrcF (a : Int) (m : Mp) : Src := m.sb.foldl (xSb a) (m.sn.foldl (xSn a) z1)
/-- What is told of it. -/
def Src.told (s : Src) : Src := if s.b < 0 then z0 else ⟨s.v, s.p, s.b, true⟩
theorem rSource_ok (m : Mp) (a : Int) (h1 : m.sn.length < 1000000) (h2 : m.sb.length < 100000000) : FnR Try.prog 17 [avMf m, I a] (fun r S => r = (xrcF a m).told.av ∧ S = []) := by
  refine fnR_intro (T := TT) (n := 83) Try.func17 rfl rfl rfl (fun w Z => ?_)
  (repeat (first | refine r_end ?_ | (refine r_op ?_; first | refine r_pure hT rfl rfl rfl rfl rfl rfl ?_ | refine r_box rfl rfl rfl rfl rfl rfl rfl rfl rfl ?_ | refine r_store hT rfl rfl rfl rfl rfl rfl rfl rfl rfl rfl ?_ | refine r_alloc hT rfl rfl rfl rfl rfl rfl rfl rfl rfl ?_) | refine gi_seq ?_ | refine gi_plain ?_ | refine gi_block ?_))
  refine gi_loop (σ := Nat × Src) (fun s => [(11, I (s.1 : Int)), (2, .box 0 0), (4, .box 1 0), (8, .box 2 0), (1, I a), (9, I s.2.p), (10, I s.2.b)]) (fun s => [hMf m, hV ⟨0, 0⟩, hV s.2.v]) (fun _ => []) (fun s => s.1 ≤ m.sn.length ∧ s.2 = (m.sn.take s.1).foldl (xSn a) z1) (fun s => m.sn.length - s.1) (0, z1) ⟨Nat.zero_le _, rfl⟩ ⟨rfl, rfl, rfl, rfl, rfl, rfl, rfl, trivial⟩ ⟨rfl, rfl, rfl, trivial⟩ trivial (fun _ => rfl) (fun s hs next => ?_)
  obtain ⟨i, st⟩ := s
  obtain ⟨hi, hst⟩ := hs
  simp only at hi hst
  (repeat (first | refine r_end ?_ | (refine r_op ?_; first | refine r_pure hT rfl rfl rfl rfl rfl rfl ?_ | refine r_load hT rfl rfl rfl rfl rfl rfl rfl rfl rfl ?_) | refine gi_seq ?_ | refine gi_plain ?_))
  refine gi_lt (p := (i : Int)) (q := ((m.sn.map Sn.row).length : Int)) rfl (fun h3 => ?_) (fun h3 => ?_)
  · rw [List.length_map] at h3
    obtain ⟨x, hx⟩ : ∃ x, m.sn[i]? = some x := ⟨_, List.getElem?_eq_getElem (by omega)⟩
    have go : ∀ st', st' = xSn a st x → ∀ F1 H1 S1, SubF [(11, I (wr .i64 ((i : Int) + 1))), (2, .box 0 0), (4, .box 1 0), (8, .box 2 0), (1, I a), (9, I st'.p), (10, I st'.b)] F1 → SubH [hMf m, hV ⟨0, 0⟩, hV st'.v] H1 → SubS [] S1 → GI _ _ F1 H1 S1 := fun st' hst' F1 H1 S1 hF hH hS => by
      refine next (i + 1, st') F1 H1 S1 ⟨by simp only; omega, by simp only; rw [foldl_tk hx, ← hst, hst']⟩ (by simp only; omega) ?_ hH hS
      rw [wr_i64 (by omega) (by omega)] at hF
      simpa using hF
    clear next
    (repeat (first | (refine r_op ?_; first | refine r_pure hT rfl rfl rfl rfl rfl rfl ?_ | refine r_load hT rfl rfl rfl rfl rfl rfl rfl rfl rfl ?_) | refine gi_seq ?_ | refine gi_plain ?_ | refine gi_skip ?_ | refine gi_block ?_))
    refine r_thaw 24 rfl ?_
    refine r_idx (row := x.row) hT rfl rfl rfl rfl rfl rfl rfl rfl rfl rfl rfl rfl (by show (0 : Int) ≤ (i : Int); omega) (by simp [hx]) ?_
    (repeat (first | refine r_end ?_ | (refine r_op ?_; first | refine r_pure hT rfl rfl rfl rfl rfl rfl ?_ | refine r_load hT rfl rfl rfl rfl rfl rfl rfl rfl rfl ?_ | refine r_store hT rfl rfl rfl rfl rfl rfl rfl rfl rfl rfl ?_ | refine r_alloc hT rfl rfl rfl rfl rfl rfl rfl rfl rfl ?_) | refine gi_seq ?_ | refine gi_plain ?_))
    refine r_call (rIn_ok a x.p x.b) rfl rfl rfl rfl rfl rfl rfl rfl Try.func26 rfl rfl rfl pB ?_
    rintro r S1 ⟨rfl, rfl⟩
    (repeat ((refine r_op ?_; refine r_pure hT rfl rfl rfl rfl rfl rfl ?_)))
    refine r_case (d := 34) rfl (fun c1 => ?_) (fun c1 => ?_)
    · (repeat (first | refine r_end ?_ | (refine r_op ?_; first | refine r_pure hT rfl rfl rfl rfl rfl rfl ?_ | refine r_load hT rfl rfl rfl rfl rfl rfl rfl rfl rfl ?_)))
      refine gi_lt rfl (fun c3 => ?_) (fun c3 => ?_)
      · have hs1 : (⟨x.v, x.p, x.b, true⟩ : Src) = xSn a st x := (if_pos ⟨c1, c3⟩).symm
        (repeat (first | refine r_end ?_ | (refine r_op ?_; first | refine r_pure hT rfl rfl rfl rfl rfl rfl ?_ | refine r_load hT rfl rfl rfl rfl rfl rfl rfl rfl rfl ?_ | refine r_store hT rfl rfl rfl rfl rfl rfl rfl rfl rfl rfl ?_) | refine gi_seq ?_ | refine gi_plain ?_ | refine gi_inBlock ?_))
        exact go _ hs1 _ _ _ ⟨rfl, rfl, rfl, rfl, rfl, rfl, rfl, trivial⟩ ⟨rfl, rfl, rfl, trivial⟩ trivial
      · have hs1 : st = xSn a st x := (if_neg (fun h => c3 h.2)).symm
        (repeat (first | refine r_end ?_ | (refine r_op ?_; refine r_pure hT rfl rfl rfl rfl rfl rfl ?_) | refine gi_plain ?_ | refine gi_skip ?_ | refine gi_inBlock ?_))
        exact go _ hs1 _ _ _ ⟨rfl, rfl, rfl, rfl, rfl, rfl, rfl, trivial⟩ ⟨rfl, rfl, rfl, trivial⟩ trivial
    · have hs1 : st = xSn a st x := (if_neg (fun h => by rw [c1] at h; cases h.1)).symm
      (repeat (first | refine r_end ?_ | (refine r_op ?_; first | refine r_pure hT rfl rfl rfl rfl rfl rfl ?_ | refine r_off rfl rfl rfl rfl rfl ?_) | refine gi_plain ?_ | refine gi_skip ?_ | refine gi_inBlock ?_ | (refine gi_cnd ?_; first | refine gi_true rfl ?_ | refine gi_false rfl ?_)))
      exact go _ hs1 _ _ _ ⟨rfl, rfl, rfl, rfl, rfl, rfl, rfl, trivial⟩ ⟨rfl, rfl, rfl, trivial⟩ trivial
  · rw [List.length_map] at h3
    have hil : i = m.sn.length := by omega
    subst hil
    rw [List.take_length] at hst
    clear next
    (repeat (first | refine r_end ?_ | (refine r_op ?_; refine r_pure hT rfl rfl rfl rfl rfl rfl ?_) | refine gi_seq ?_ | refine gi_plain ?_ | refine gi_block ?_ | refine gi_exit rfl ?_))
    refine gi_loop (σ := Nat × Src) (fun s => [(13, I (s.1 : Int)), (2, .box 0 0), (4, .box 1 0), (8, .box 2 0), (1, I a), (9, I s.2.p), (10, I s.2.b)]) (fun s => [hMf m, hV ⟨0, 0⟩, hV s.2.v]) (fun _ => []) (fun s => s.1 ≤ m.sb.length ∧ s.2 = (m.sb.take s.1).foldl (xSb a) st) (fun s => m.sb.length - s.1) (0, st) ⟨Nat.zero_le _, rfl⟩ ⟨rfl, rfl, rfl, rfl, rfl, rfl, rfl, trivial⟩ ⟨rfl, rfl, rfl, trivial⟩ trivial (fun _ => rfl) (fun s hs next => ?_)
    obtain ⟨i, su⟩ := s
    obtain ⟨hi, hsu⟩ := hs
    simp only at hi hsu
    (repeat (first | refine r_end ?_ | (refine r_op ?_; first | refine r_pure hT rfl rfl rfl rfl rfl rfl ?_ | refine r_load hT rfl rfl rfl rfl rfl rfl rfl rfl rfl ?_) | refine gi_seq ?_ | refine gi_plain ?_))
    refine gi_lt (p := (i : Int)) (q := ((m.sb.map Sb.row).length : Int)) rfl (fun h3 => ?_) (fun h3 => ?_)
    · rw [List.length_map] at h3
      obtain ⟨x, hx⟩ : ∃ x, m.sb[i]? = some x := ⟨_, List.getElem?_eq_getElem (by omega)⟩
      have go : ∀ st', st' = xSb a su x → ∀ F1 H1 S1, SubF [(13, I (wr .i64 ((i : Int) + 1))), (2, .box 0 0), (4, .box 1 0), (8, .box 2 0), (1, I a), (9, I st'.p), (10, I st'.b)] F1 → SubH [hMf m, hV ⟨0, 0⟩, hV st'.v] H1 → SubS [] S1 → GI _ _ F1 H1 S1 := fun st' hst' F1 H1 S1 hF hH hS => by
        refine next (i + 1, st') F1 H1 S1 ⟨by simp only; omega, by simp only; rw [foldl_tk hx, ← hsu, hst']⟩ (by simp only; omega) ?_ hH hS
        rw [wr_i64 (by omega) (by omega)] at hF
        simpa using hF
      clear next
      (repeat (first | (refine r_op ?_; first | refine r_pure hT rfl rfl rfl rfl rfl rfl ?_ | refine r_load hT rfl rfl rfl rfl rfl rfl rfl rfl rfl ?_) | refine gi_seq ?_ | refine gi_plain ?_ | refine gi_skip ?_ | refine gi_block ?_))
      refine r_thaw 54 rfl ?_
      refine r_idx (row := x.row) hT rfl rfl rfl rfl rfl rfl rfl rfl rfl rfl rfl rfl (by show (0 : Int) ≤ (i : Int); omega) (by simp [hx]) ?_
      (repeat (first | refine r_end ?_ | (refine r_op ?_; first | refine r_pure hT rfl rfl rfl rfl rfl rfl ?_ | refine r_load hT rfl rfl rfl rfl rfl rfl rfl rfl rfl ?_ | refine r_store hT rfl rfl rfl rfl rfl rfl rfl rfl rfl rfl ?_ | refine r_alloc hT rfl rfl rfl rfl rfl rfl rfl rfl rfl ?_) | refine gi_seq ?_ | refine gi_plain ?_))
      refine r_call (rIn_ok a x.p x.b) rfl rfl rfl rfl rfl rfl rfl rfl Try.func26 rfl rfl rfl pB ?_
      rintro r S1 ⟨rfl, rfl⟩
      (repeat ((refine r_op ?_; refine r_pure hT rfl rfl rfl rfl rfl rfl ?_)))
      refine r_case (d := 64) rfl (fun c1 => ?_) (fun c1 => ?_)
      · (repeat (first | refine r_end ?_ | (refine r_op ?_; first | refine r_pure hT rfl rfl rfl rfl rfl rfl ?_ | refine r_load hT rfl rfl rfl rfl rfl rfl rfl rfl rfl ?_)))
        refine gi_lt rfl (fun c3 => ?_) (fun c3 => ?_)
        · have hs1 : (⟨⟨1, x.r⟩, x.p, x.b, true⟩ : Src) = xSb a su x := (if_pos ⟨c1, c3⟩).symm
          (repeat (first | refine r_end ?_ | (refine r_op ?_; first | refine r_pure hT rfl rfl rfl rfl rfl rfl ?_ | refine r_load hT rfl rfl rfl rfl rfl rfl rfl rfl rfl ?_ | refine r_store hT rfl rfl rfl rfl rfl rfl rfl rfl rfl rfl ?_) | refine gi_seq ?_ | refine gi_plain ?_ | refine gi_inBlock ?_))
          exact go _ hs1 _ _ _ ⟨rfl, rfl, rfl, rfl, rfl, rfl, rfl, trivial⟩ ⟨rfl, rfl, rfl, trivial⟩ trivial
        · have hs1 : su = xSb a su x := (if_neg (fun h => c3 h.2)).symm
          (repeat (first | refine r_end ?_ | (refine r_op ?_; refine r_pure hT rfl rfl rfl rfl rfl rfl ?_) | refine gi_plain ?_ | refine gi_skip ?_ | refine gi_inBlock ?_))
          exact go _ hs1 _ _ _ ⟨rfl, rfl, rfl, rfl, rfl, rfl, rfl, trivial⟩ ⟨rfl, rfl, rfl, trivial⟩ trivial
      · have hs1 : su = xSb a su x := (if_neg (fun h => by rw [c1] at h; cases h.1)).symm
        (repeat (first | refine r_end ?_ | (refine r_op ?_; first | refine r_pure hT rfl rfl rfl rfl rfl rfl ?_ | refine r_off rfl rfl rfl rfl rfl ?_) | refine gi_plain ?_ | refine gi_skip ?_ | refine gi_inBlock ?_ | (refine gi_cnd ?_; first | refine gi_true rfl ?_ | refine gi_false rfl ?_)))
        exact go _ hs1 _ _ _ ⟨rfl, rfl, rfl, rfl, rfl, rfl, rfl, trivial⟩ ⟨rfl, rfl, rfl, trivial⟩ trivial
    · rw [List.length_map] at h3
      have hil : i = m.sb.length := by omega
      subst hil
      rw [List.take_length] at hsu
      have hfin : su = xrcF a m := by unfold xrcF; rw [hsu, hst]
      clear next
      (repeat (first | refine r_end ?_ | (refine r_op ?_; refine r_pure hT rfl rfl rfl rfl rfl rfl ?_) | refine gi_seq ?_ | refine gi_plain ?_ | refine gi_exit rfl ?_))
      refine gi_lt (q := 0) rfl (fun h4 => ?_) (fun h4 => ?_)
      · (repeat (first | refine r_end ?_ | (refine r_op ?_; first | refine r_pure hT rfl rfl rfl rfl rfl rfl ?_ | refine r_store hT rfl rfl rfl rfl rfl rfl rfl rfl rfl rfl ?_) | refine gi_seq ?_ | refine gi_plain ?_))
        refine gi_retW hT Try.func17 rfl rfl [] rfl rfl rfl rfl ?_
        exact ⟨by rw [← hfin]; unfold Src.told; rw [if_pos h4]; rfl, rfl⟩
      · (repeat (first | refine r_end ?_ | (refine r_op ?_; first | refine r_pure hT rfl rfl rfl rfl rfl rfl ?_ | refine r_load hT rfl rfl rfl rfl rfl rfl rfl rfl rfl ?_ | refine r_store hT rfl rfl rfl rfl rfl rfl rfl rfl rfl rfl ?_) | refine gi_seq ?_ | refine gi_plain ?_ | refine gi_skip ?_))
        refine gi_retW hT Try.func17 rfl rfl [] rfl rfl rfl rfl ?_
        exact ⟨by rw [← hfin]; unfold Src.told; rw [if_neg h4], rfl⟩
end Go.Proofs.Ytmocggibcniggaa.Kt
