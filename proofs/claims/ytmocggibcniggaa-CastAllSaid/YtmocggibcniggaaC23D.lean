/- Part of the proofs of this seat's statements: what the functions compute. No condition. -/
import Derived.Test.YtmocggibcniggaaC23C
set_option linter.unusedSimpArgs false
set_option linter.unusedVariables false
namespace Go.Proofs.Ytmocggibcniggaa.Kt
open Go Kw Go.Proofs
attribute [local irreducible] Kw.GI Kw.GR Kw.FnR Kw.FnX
set_option maxHeartbeats 8000000
set_option maxRecDepth 100000
theorem F5_box {d : Nat} {x : AV} (h : Fr.get F5 d = some x) : ∃ i off, x = .box i off := by
  simp only [Fr.get] at h
  repeat' (split at h)
  all_goals first | (cases h; exact ⟨_, _, rfl⟩) | (cases h)
theorem pBk {t : List Nd} : ∀ r H1 S1, (r = .fn 81 [.box 0 0] ∧ H1 = [hTt t] ∧ S1 = []) → stA r = true ∧ StH H1 ∧ StS S1 := by
  rintro r H S ⟨rfl, rfl, rfl⟩
  refine ⟨rfl, fun e he t cs hs => ?_, fun e he => by cases he⟩
  simp only [List.mem_cons, List.not_mem_nil, or_false] at he
  rcases he with rfl
  cases hs
  show (stLL (t.map Nd.row) && true) = true
  rw [stLL_Nd]; rfl
theorem it_gen {P : Program} {g : FuncId} {l : Nat} {r0 : Loop} {xs : List AV} {Fs : Fr} {H : Hp} {S : Sp} {Post : Hp → Sp → Prop} (h : ∀ r, r = r0 → ItSpec P g l r xs Fs H S Post) : ItSpec P g l r0 xs Fs H S Post := h r0 rfl
theorem rd_intro2 {P : Program} {T : Tab} {l : Nat} {r : Loop} {fn : Func} {n p0 p1 : Nat} {x0 x1 : AV} {Fs : Fr} {H : Hp} {S : Sp} {Post : Hp → Sp → Prop} {A B : Code} {f : FuncId} (hr : r = ready r) (hps : r.params = #[p0, p1]) (hn : r.tmps.size = n) (h0 : Nat.blt p0 n = true) (h1 : Nat.blt p1 n = true) (hA : r.assign = A) (hB : r.body = B) (hf : r.fn = f)
    (h : ∀ (w : World) (X : Org), X.nb = H.length → w.heap[l]? = some (.loop r) → Far w X l → GI ⟨P, T, f, fn, n, w, X, RetY w X Post, some l, false, []⟩ [.code A, .beginRound, .code B] ((p1, x1) :: (p0, x0) :: Fs) H S) : RdSpec P l r [x0, x1] Fs H S Post := by
  subst hA hB hf
  exact rd_intro hr hps hn h0 h1 h
theorem map_repl (n : Nat) (x : Int) : List.replicate n (nRow x) = (List.replicate n x).map nRow := by rw [List.map_replicate]
abbrev H7 (t : List Nd) (m : Mp) (ms : List Vt) (n : Nd) : Hp := [hTt t, hMf m, hVs ms, hSl 0, hSl 1, hTt t, hNd n]
theorem valR_w {w : List Int} {ms : List Vt} {n : Nd} {e : Int} (h : isW w n = true) : valR w ms n e = 0 := by unfold valR; rw [if_pos h]
theorem valR_m {w : List Int} {ms : List Vt} {n : Nd} {e : Int} (h : isW w n = false) (h2 : isMb ms n = true) : valR w ms n e = 1 := by unfold valR; rw [if_neg (by rw [h]; decide), if_pos h2]
theorem valR_r {w : List Int} {ms : List Vt} {n : Nd} {e : Int} (h : isW w n = false) (h2 : isMb ms n = false) (h3 : n.v.k = 1) : valR w ms n e = e := by unfold valR; rw [if_neg (by rw [h]; decide), if_neg (by rw [h2]; decide), if_neg (fun hh => hh.1 h3)]
theorem valR_n {w : List Int} {ms : List Vt} {n : Nd} {e : Int} (h : isW w n = false) (h2 : isMb ms n = false) (h3 : ¬ 0 ≤ e) : valR w ms n e = e := by unfold valR; rw [if_neg (by rw [h]; decide), if_neg (by rw [h2]; decide), if_neg (fun hh => h3 hh.2)]
theorem valR_p {w : List Int} {ms : List Vt} {n : Nd} {e : Int} (h : isW w n = false) (h2 : isMb ms n = false) (h3 : n.v.k ≠ 1) (h4 : 0 ≤ e) : valR w ms n e = e + 1 := by unfold valR; rw [if_neg (by rw [h]; decide), if_neg (by rw [h2]; decide), if_pos ⟨h3, h4⟩]
theorem pReach_ok (t : List Nd) (m : Mp) (ms : List Vt) (hl : t.length < 1000000) (hw : m.wl.length < 1000000) (hms : ms.length < 1000000) : FnX Try.prog 23 [fsNd t, avMf m, rsV ms] [] [] (fun r H S => r = .sl 0 ∧ H = [] ∧ ∃ o, S = [eN o] ∧ Rch t m.wl ms o) := by
  refine fnX_intro (T := TT) (n := 107) Try.func23 rfl rfl rfl (fun w X Z Y B => ?_)
  (repeat (first | refine r_end ?_ | (refine r_op ?_; first | refine r_pure hT rfl rfl rfl rfl rfl rfl ?_ | refine r_load hT rfl rfl rfl rfl rfl rfl rfl rfl rfl ?_ | refine r_box rfl rfl rfl rfl rfl rfl rfl rfl rfl ?_) | refine gi_seq ?_ | refine gi_plain ?_))
  refine r_make (n := (t.length : Int)) hT rfl rfl rfl rfl rfl rfl rfl (by show some (I (((t.map Nd.row).length : Nat) : Int)) = _; rw [List.length_map]) (by show some (I (((t.map Nd.row).length : Nat) : Int)) = _; rw [List.length_map]) rfl rfl rfl rfl rfl rfl (by omega) ⟨by rw [Int.toNat_natCast]; simp only [maxLen]; omega, by rw [Int.toNat_natCast]; show 8 * t.length ≤ _; omega⟩ ?_
  (repeat (first | refine r_end ?_ | (refine r_op ?_; first | refine r_pure hT rfl rfl rfl rfl rfl rfl ?_ | refine r_load hT rfl rfl rfl rfl rfl rfl rfl rfl rfl ?_ | refine r_store hT rfl rfl rfl rfl rfl rfl rfl rfl rfl rfl ?_ | refine r_alloc hT rfl rfl rfl rfl rfl rfl rfl rfl rfl ?_) | refine gi_seq ?_ | refine gi_plain ?_))
  refine r_make (n := (t.length : Int)) hT rfl rfl rfl rfl rfl rfl rfl (by show some (I (((t.map Nd.row).length : Nat) : Int)) = _; rw [List.length_map]) (by show some (I (((t.map Nd.row).length : Nat) : Int)) = _; rw [List.length_map]) rfl rfl rfl rfl rfl rfl (by omega) ⟨by rw [Int.toNat_natCast]; simp only [maxLen]; omega, by rw [Int.toNat_natCast]; show 8 * t.length ≤ _; omega⟩ ?_
  (repeat (first | refine r_end ?_ | (refine r_op ?_; first | refine r_pure hT rfl rfl rfl rfl rfl rfl ?_ | refine r_load hT rfl rfl rfl rfl rfl rfl rfl rfl rfl ?_ | refine r_store hT rfl rfl rfl rfl rfl rfl rfl rfl rfl rfl ?_ | refine r_alloc hT rfl rfl rfl rfl rfl rfl rfl rfl rfl ?_) | refine gi_seq ?_ | refine gi_plain ?_ | refine gi_block ?_))
  have hrep : List.replicate (t.length : Int).toNat (zRow [Value.int IntKind.i64 0]) = (List.replicate t.length (0 : Int)).map nRow := by rw [Int.toNat_natCast, List.map_replicate]; rfl
  refine gi_loop (σ := Nat × List Int) (fun s => [(22, I (s.1 : Int)), (21, I (t.length : Int)), (3, .box 0 0), (4, .box 1 0), (5, .box 2 0), (7, .box 3 0), (8, .box 4 0)]) (fun _ => [hTt t, hMf m, hVs ms, hSl 0, hSl 1]) (fun s => [eN (List.replicate t.length 0), eN s.2]) (fun s => s.1 ≤ t.length ∧ s.2.length = t.length ∧ ∀ k, k < s.1 → s.2[k]? = some (-1)) (fun s => t.length - s.1) (0, List.replicate t.length 0) ⟨Nat.zero_le _, by simp, fun k hk => absurd hk (Nat.not_lt_zero _)⟩ ⟨rfl, ?_, rfl, rfl, rfl, rfl, rfl, trivial⟩ ⟨rfl, rfl, rfl, rfl, rfl, trivial⟩ ⟨?_, ?_, trivial⟩ (fun _ => rfl) (fun s hs next => ?_)
  · show some (I (((List.replicate (t.length : Int).toNat (zRow [Value.int IntKind.i64 0])).length : Nat) : Int)) = _
    rw [hrep, List.length_map, List.length_replicate]
  · show eN (List.replicate t.length 0) = some (⟨_, _, List.replicate (t.length : Int).toNat (zRow [Value.int IntKind.i64 0]), _⟩ : SE)
    rw [hrep]
  · show eN (List.replicate t.length 0) = some (⟨_, _, List.replicate (t.length : Int).toNat (zRow [Value.int IntKind.i64 0]), _⟩ : SE)
    rw [hrep]
  obtain ⟨j, d⟩ := s
  obtain ⟨hj, hld, hk⟩ := hs
  simp only at hj hld hk
  (repeat (first | refine r_end ?_ | (refine r_op ?_; refine r_pure hT rfl rfl rfl rfl rfl rfl ?_) | refine gi_seq ?_ | refine gi_plain ?_))
  refine gi_lt (p := (j : Int)) rfl (fun h3 => ?_) (fun h3 => ?_)
  · have hjl' : j + 1 ≤ t.length := by omega
    have hjl : j < d.length := by omega
    (repeat (first | refine r_end ?_ | (refine r_op ?_; first | refine r_pure hT rfl rfl rfl rfl rfl rfl ?_ | refine r_load hT rfl rfl rfl rfl rfl rfl rfl rfl rfl ?_) | refine gi_seq ?_ | refine gi_plain ?_ | refine gi_skip ?_ | refine gi_block ?_))
    refine r_idxS hT rfl rfl rfl rfl rfl rfl rfl rfl rfl rfl rfl rfl rfl (by show (0 : Int) ≤ (j : Int); omega) (by show ((j : Nat) : Int).toNat < (d.map nRow).length; rw [List.length_map]; omega) ?_
    skip
    refine r_storeS (row := nRow d[j]) hT rfl rfl rfl rfl rfl rfl rfl rfl rfl rfl rfl rfl rfl (by show (List.map nRow _)[((j : Nat) : Int).toNat]? = _; rw [Int.toNat_natCast, List.getElem?_map, List.getElem?_eq_getElem hjl]; rfl) ?_
    (repeat (first | refine r_end ?_ | (refine r_op ?_; refine r_pure hT rfl rfl rfl rfl rfl rfl ?_) | refine gi_plain ?_ | refine gi_inBlock ?_))
    refine next (j + 1, d.set j (-1)) _ _ _ ⟨hjl', by rw [List.length_set]; exact hld, fun k hkj => ?_⟩ (by simp only; omega) ⟨?_, rfl, rfl, rfl, rfl, rfl, rfl, trivial⟩ ⟨rfl, rfl, rfl, rfl, rfl, trivial⟩ ⟨rfl, ?_, trivial⟩
    · by_cases e : k = j
      · subst e; exact List.getElem?_set_self hjl
      · rw [List.getElem?_set_ne (fun h => e h.symm)]; exact hk k (by omega)
    · show some (I (wr .i64 ((j : Int) + 1))) = _
      rw [wr_i64 (by omega) (by omega)]
      simp
    · show eN (d.set j (-1)) = some (⟨_, _, (d.map nRow).set ((j : Nat) : Int).toNat (nRow (-1)), _⟩ : SE)
      rw [Int.toNat_natCast, ← List.map_set]
  have hd : d = List.replicate t.length (-1) := by
    refine List.eq_replicate_iff.2 ⟨hld, fun b hb => ?_⟩
    obtain ⟨k, hkb⟩ := List.mem_iff_getElem?.1 hb
    have := (List.getElem?_eq_some_iff.1 hkb).1
    rw [hk k (by omega)] at hkb
    exact (Option.some.inj hkb).symm
  subst hd
  (repeat (first | (refine r_op ?_; refine r_load hT rfl rfl rfl rfl rfl rfl rfl rfl rfl ?_) | refine gi_seq ?_ | refine gi_plain ?_ | refine gi_exit rfl ?_))
  refine r_callX [] [] (Backward_ok t) rfl rfl rfl rfl rfl rfl Try.func53 rfl rfl rfl rfl rfl rfl rfl pBk ?_
  rintro r H1 S1 ⟨rfl, rfl, rfl⟩
  (repeat (first | refine r_end ?_ | refine gi_block ?_))
  refine gi_range (g := 81) (cap := [.box 5 0]) (Fs := F5) (Post := fun H S => H = H6 t m ms ∧ ∃ o' d', S = [eN o', eN d'] ∧ RInv t m.wl ms 0 o' d') rfl rfl rfl rfl rfl rfl (fun d x hx => ⟨SubF_get (F' := F5) ⟨rfl, rfl, rfl, rfl, rfl, trivial⟩ hx, F5_box hx⟩) rfl rfl (fun l tmps D htm => ?_) ?_
  · refine it_gen (fun r hr => ?_)
    have hrr : r = ready r := by subst hr; rfl
    have hst : r.state = .ready := by subst hr; rfl
    refine iter_ok hl (by subst hr; rfl) (fun i => RInv t m.wl ms i) _ _ (RInv.zero t m.wl ms) (fun i np o d hnp hI => ?_)
    refine rd_intro2 (T := TT) (n := 107) (fn := Try.f23) (f := 23) (p0 := 31) (p1 := 32) hrr (by subst hr; rfl) (by subst hr; exact htm) rfl rfl (congrArg Loop.assign hr) (congrArg Loop.body hr) (by subst hr; rfl) (fun wv X1 hX1 hwl1 hf1 => ?_)
    clear hr
    obtain ⟨xX, xZ, xY, xnb, xB⟩ := X1
    have hX1 : xnb = 6 := hX1
    subst hX1
    (repeat (first | refine r_end ?_ | (refine r_op ?_; first | refine r_pure hT rfl rfl rfl rfl rfl rfl ?_ | refine r_store hT rfl rfl rfl rfl rfl rfl rfl rfl rfl rfl ?_ | refine r_alloc hT rfl rfl rfl rfl rfl rfl rfl rfl rfl ?_) | refine gi_seq ?_ | refine gi_plain ?_))
    refine gi_begin (l := l) (r := r) rfl hwl1 hst hf1 ?_
    (repeat (first | (refine r_op ?_; first | refine r_pure hT rfl rfl rfl rfl rfl rfl ?_ | refine r_load hT rfl rfl rfl rfl rfl rfl rfl rfl rfl ?_) | refine gi_seq ?_ | refine gi_plain ?_ | refine gi_block ?_))
    obtain ⟨e, he⟩ : ∃ e, d[i]? = some e := ⟨_, List.getElem?_eq_getElem (by rw [hI.ld]; exact (List.getElem?_eq_some_iff.1 hnp).1)⟩
    have hil := (List.getElem?_eq_some_iff.1 hnp).1
    have hidl : i < d.length := by rw [hI.ld]; exact hil
    have hiol : i < o.length := by rw [hI.lo]; exact hil
    have hvb := hI.vb hnp he
    have heu := hI.eup hnp he
    refine r_idxS hT rfl rfl rfl rfl rfl rfl rfl rfl rfl rfl rfl rfl rfl (by show (0 : Int) ≤ (i : Int); omega) (by show ((i : Nat) : Int).toNat < (d.map nRow).length; rw [List.length_map]; omega) ?_
    skip
    refine r_loadS (row := nRow e) hT rfl rfl rfl rfl rfl rfl rfl rfl (by show (d.map nRow)[((i : Int)).toNat]? = _; rw [Int.toNat_natCast, List.getElem?_map, he]; rfl) rfl rfl rfl ?_
    (repeat (first | refine r_end ?_ | (refine r_op ?_; first | refine r_pure hT rfl rfl rfl rfl rfl rfl ?_ | refine r_load hT rfl rfl rfl rfl rfl rfl rfl rfl rfl ?_) | refine gi_seq ?_ | refine gi_plain_ne 13 rfl ?_ | refine gi_block ?_))
    apply gi_cut (σ := Unit) (fun _ => [(12, I (valR m.wl ms np e)), (13, Bo (eqB np.v.k 1)), (10, I (i : Int)), (11, .box 6 0), (3, .box 0 0), (4, .box 1 0), (5, .box 2 0), (7, .box 3 0), (8, .box 4 0)]) (fun _ => H7 t m ms np) (fun _ => [eN o, eN d]) (fun _ => True) (fun _ => rfl)
    case first =>
      intro fin
      (repeat (first | (refine r_op ?_; refine r_pure hT rfl rfl rfl rfl rfl rfl ?_) | refine gi_plain ?_))
      refine r_case (d := 43) rfl (fun hk => ?_) (fun hk => ?_)
      · have hk1 : np.v.k = 1 := by rw [eqB_eq] at hk; exact of_decide_eq_true hk
        (repeat ((refine r_op ?_; first | refine r_pure hT rfl rfl rfl rfl rfl rfl ?_ | refine r_load hT rfl rfl rfl rfl rfl rfl rfl rfl rfl ?_)))
        refine r_thaw 45 rfl ?_
        skip
        refine r_call (ContainsI_ok m.wl np.v.i hw) rfl rfl rfl rfl rfl rfl rfl rfl Try.func54 rfl rfl rfl pB ?_
        rintro r2 S2 ⟨rfl, rfl⟩
        (repeat (first | refine r_end ?_ | (refine r_op ?_; refine r_pure hT rfl rfl rfl rfl rfl rfl ?_)))
        refine gi_cond rfl (fun hwd => ?_) (fun hwd => ?_)
        · have hw1 : isW m.wl np = true := by unfold isW; rw [hwd, decide_eq_true hk1]; rfl
          (repeat (first | refine r_end ?_ | (refine r_op ?_; refine r_pure hT rfl rfl rfl rfl rfl rfl ?_) | refine gi_seq ?_ | refine gi_plain_ne 19 rfl ?_ | refine gi_inBlock ?_))
          exact fin () _ _ _ trivial ⟨by show some (I _) = some (I (valR m.wl ms np e)); rw [valR_w hw1], rfl, rfl, rfl, rfl, rfl, rfl, rfl, rfl, trivial⟩ ⟨rfl, rfl, rfl, rfl, rfl, rfl, rfl, trivial⟩ ⟨rfl, rfl, trivial⟩
        have hw0 : isW m.wl np = false := by unfold isW; rw [hwd, Bool.and_false]
        (repeat (first | (refine r_op ?_; first | refine r_pure hT rfl rfl rfl rfl rfl rfl ?_ | refine r_load hT rfl rfl rfl rfl rfl rfl rfl rfl rfl ?_) | refine gi_seq ?_ | refine gi_plain ?_))
        refine r_call (ContainsV_ok ms np.v hms) rfl rfl rfl rfl rfl rfl rfl rfl Try.func55 rfl rfl rfl pB ?_
        rintro r2 S2 ⟨rfl, rfl⟩
        (repeat (first | refine r_end ?_ | (refine r_op ?_; refine r_pure hT rfl rfl rfl rfl rfl rfl ?_)))
        refine gi_cond rfl (fun hmb => ?_) (fun hmb => ?_)
        · have hmb : isMb ms np = true := hmb
          (repeat (first | refine r_end ?_ | (refine r_op ?_; refine r_pure hT rfl rfl rfl rfl rfl rfl ?_) | refine gi_seq ?_ | refine gi_plain_ne 19 rfl ?_ | refine gi_inBlock ?_))
          exact fin () _ _ _ trivial ⟨by show some (I _) = some (I (valR m.wl ms np e)); rw [valR_m hw0 hmb], rfl, rfl, rfl, rfl, rfl, rfl, rfl, rfl, trivial⟩ ⟨rfl, rfl, rfl, rfl, rfl, rfl, rfl, trivial⟩ ⟨rfl, rfl, trivial⟩
        have hmb : isMb ms np = false := hmb
        (repeat (first | (refine r_op ?_; refine r_pure hT rfl rfl rfl rfl rfl rfl ?_) | refine gi_seq ?_ | refine gi_plain ?_))
        refine r_case (d := 59) rfl (fun h59 => ?_) (fun h59 => ?_)
        · rw [notB_eq, hk] at h59
          exact absurd h59 (by decide)
        · skip
          (repeat (first | refine r_end ?_ | (refine r_op ?_; first | refine r_pure hT rfl rfl rfl rfl rfl rfl ?_ | refine r_off rfl rfl rfl rfl rfl ?_) | refine gi_seq ?_ | refine gi_skip ?_ | refine gi_inBlock ?_ | (refine gi_cnd ?_; first | refine gi_true rfl ?_ | refine gi_false rfl ?_)))
          exact fin () _ _ _ trivial ⟨by show some (I _) = some (I (valR m.wl ms np e)); rw [valR_r hw0 hmb hk1], rfl, rfl, rfl, rfl, rfl, rfl, rfl, rfl, trivial⟩ ⟨rfl, rfl, rfl, rfl, rfl, rfl, rfl, trivial⟩ ⟨rfl, rfl, trivial⟩
      · have hk1 : np.v.k ≠ 1 := by rw [eqB_eq] at hk; exact of_decide_eq_false hk
        have hw0 : isW m.wl np = false := by unfold isW; rw [decide_eq_false hk1]; rfl
        (repeat (first | refine r_end ?_ | (refine r_op ?_; first | refine r_pure hT rfl rfl rfl rfl rfl rfl ?_ | refine r_load hT rfl rfl rfl rfl rfl rfl rfl rfl rfl ?_ | refine r_off rfl rfl rfl rfl rfl ?_) | refine gi_seq ?_ | refine gi_plain ?_ | (refine gi_cnd ?_; first | refine gi_true rfl ?_ | refine gi_false rfl ?_)))
        refine r_call (ContainsV_ok ms np.v hms) rfl rfl rfl rfl rfl rfl rfl rfl Try.func55 rfl rfl rfl pB ?_
        rintro r2 S2 ⟨rfl, rfl⟩
        (repeat (first | refine r_end ?_ | (refine r_op ?_; refine r_pure hT rfl rfl rfl rfl rfl rfl ?_)))
        refine gi_cond rfl (fun hmb => ?_) (fun hmb => ?_)
        · have hmb : isMb ms np = true := hmb
          (repeat (first | refine r_end ?_ | (refine r_op ?_; refine r_pure hT rfl rfl rfl rfl rfl rfl ?_) | refine gi_seq ?_ | refine gi_plain_ne 19 rfl ?_ | refine gi_inBlock ?_))
          exact fin () _ _ _ trivial ⟨by show some (I _) = some (I (valR m.wl ms np e)); rw [valR_m hw0 hmb], rfl, rfl, rfl, rfl, rfl, rfl, rfl, rfl, trivial⟩ ⟨rfl, rfl, rfl, rfl, rfl, rfl, rfl, trivial⟩ ⟨rfl, rfl, trivial⟩
        have hmb : isMb ms np = false := hmb
        (repeat (first | (refine r_op ?_; refine r_pure hT rfl rfl rfl rfl rfl rfl ?_) | refine gi_seq ?_ | refine gi_plain ?_))
        refine r_case (d := 59) rfl (fun h59 => ?_) (fun h59 => ?_)
        · (repeat (first | refine r_end ?_ | (refine r_op ?_; refine r_pure hT rfl rfl rfl rfl rfl rfl ?_)))
          refine gi_le (p := 0) (q := e) rfl (fun he0 => ?_) (fun he0 => ?_)
          · have hcp : cP np = 1 := if_neg hk1
            (repeat (first | refine r_end ?_ | (refine r_op ?_; refine r_pure hT rfl rfl rfl rfl rfl rfl ?_) | refine gi_seq ?_ | refine gi_plain_ne 19 rfl ?_ | refine gi_inBlock ?_))
            exact fin () _ _ _ trivial ⟨by show some (I _) = some (I (valR m.wl ms np e)); rw [wr_i64 (by omega) (by omega), valR_p hw0 hmb hk1 he0], rfl, rfl, rfl, rfl, rfl, rfl, rfl, rfl, trivial⟩ ⟨rfl, rfl, rfl, rfl, rfl, rfl, rfl, trivial⟩ ⟨rfl, rfl, trivial⟩
          · skip
            (repeat (first | refine gi_seq ?_ | refine gi_skip ?_ | refine gi_inBlock ?_))
            exact fin () _ _ _ trivial ⟨by show some (I _) = some (I (valR m.wl ms np e)); rw [valR_n hw0 hmb he0], rfl, rfl, rfl, rfl, rfl, rfl, rfl, rfl, trivial⟩ ⟨rfl, rfl, rfl, rfl, rfl, rfl, rfl, trivial⟩ ⟨rfl, rfl, trivial⟩
        · rw [notB_eq, hk] at h59
          exact absurd h59 (by decide)
    case after =>
      intro _ _
      generalize hv : valR m.wl ms np e = v at hvb ⊢
      have hskip : (np.p < 0 ∨ (i : Int) ≤ np.p ∨ v < 0) → RInv t m.wl ms i (o.set i v) d := fun h => by
        subst hv; exact hI.skip hnp he h
      (repeat (first | (refine r_op ?_; first | refine r_pure hT rfl rfl rfl rfl rfl rfl ?_ | refine r_load hT rfl rfl rfl rfl rfl rfl rfl rfl rfl ?_) | refine gi_plain ?_))
      refine r_idxS hT rfl rfl rfl rfl rfl rfl rfl rfl rfl rfl rfl rfl rfl (by show (0 : Int) ≤ (i : Int); omega) (by show ((i : Nat) : Int).toNat < (o.map nRow).length; rw [List.length_map]; omega) ?_
      skip
      refine r_storeS (row := nRow o[i]) hT rfl rfl rfl rfl rfl rfl rfl rfl rfl rfl rfl rfl rfl (by show (List.map nRow _)[((i : Nat) : Int).toNat]? = _; rw [Int.toNat_natCast, List.getElem?_map, List.getElem?_eq_getElem hiol]; rfl) ?_
      (repeat (first | refine r_end ?_ | refine gi_seq ?_))
      refine gi_weak (F' := [(12, I v), (13, Bo (eqB np.v.k 1)), (10, I (i : Int)), (11, .box 6 0), (3, .box 0 0), (4, .box 1 0), (5, .box 2 0), (7, .box 3 0), (8, .box 4 0)]) (H' := H7 t m ms np) (S' := [eN (o.set i v), eN d]) ⟨rfl, rfl, rfl, rfl, rfl, rfl, rfl, rfl, rfl, trivial⟩ ⟨rfl, rfl, rfl, rfl, rfl, rfl, rfl, trivial⟩ ⟨?_, rfl, trivial⟩ rfl ?_
      · show eN (o.set i v) = some (⟨_, _, (o.map nRow).set ((i : Nat) : Int).toNat (nRow v), _⟩ : SE)
        rw [Int.toNat_natCast, ← List.map_set]
      (repeat (first | (refine r_op ?_; first | refine r_pure hT rfl rfl rfl rfl rfl rfl ?_ | refine r_load hT rfl rfl rfl rfl rfl rfl rfl rfl rfl ?_) | refine gi_plain ?_))
      refine r_case (d := 72) rfl (fun hp0 => ?_) (fun hp0 => ?_)
      · (repeat (first | refine r_end ?_ | (refine r_op ?_; first | refine r_pure hT rfl rfl rfl rfl rfl rfl ?_ | refine r_off rfl rfl rfl rfl rfl ?_) | refine gi_exit rfl ?_ | (refine gi_cnd ?_; first | refine gi_true rfl ?_ | refine gi_false rfl ?_)))
        refine gi_weak (F' := []) (H' := H6 t m ms) (S' := [eN (o.set i v), eN d]) trivial ⟨rfl, rfl, rfl, rfl, rfl, rfl, trivial⟩ ⟨rfl, rfl, trivial⟩ rfl ?_
        refine gi_endR (l := l) (r := r) (w0 := wv) rfl rfl (by rw [← hrr]; exact hwl1) hf1 rfl rfl ⟨rfl, _, _, rfl, hskip (.inl (by rw [ltB_eq] at hp0; exact of_decide_eq_true hp0))⟩
      rw [ltB_eq] at hp0
      have hp0 := of_decide_eq_false hp0
      (repeat ((refine r_op ?_; first | refine r_pure hT rfl rfl rfl rfl rfl rfl ?_ | refine r_load hT rfl rfl rfl rfl rfl rfl rfl rfl rfl ?_)))
      refine r_case (d := 78) rfl (fun hp1 => ?_) (fun hp1 => ?_)
      · (repeat (first | refine r_end ?_ | (refine r_op ?_; first | refine r_pure hT rfl rfl rfl rfl rfl rfl ?_ | refine r_off rfl rfl rfl rfl rfl ?_) | refine gi_exit rfl ?_ | (refine gi_cnd ?_; first | refine gi_true rfl ?_ | refine gi_false rfl ?_)))
        refine gi_weak (F' := []) (H' := H6 t m ms) (S' := [eN (o.set i v), eN d]) trivial ⟨rfl, rfl, rfl, rfl, rfl, rfl, trivial⟩ ⟨rfl, rfl, trivial⟩ rfl ?_
        refine gi_endR (l := l) (r := r) (w0 := wv) rfl rfl (by rw [← hrr]; exact hwl1) hf1 rfl rfl ⟨rfl, _, _, rfl, hskip (.inr (.inl (by rw [leB_eq] at hp1; exact of_decide_eq_true hp1)))⟩
      rw [leB_eq] at hp1
      have hp1 := of_decide_eq_false hp1
      (repeat (first | refine r_end ?_ | (refine r_op ?_; refine r_pure hT rfl rfl rfl rfl rfl rfl ?_)))
      refine gi_lt rfl (fun hv0 => ?_) (fun hv0 => ?_)
      · (repeat (refine gi_exit rfl ?_))
        refine gi_weak (F' := []) (H' := H6 t m ms) (S' := [eN (o.set i v), eN d]) trivial ⟨rfl, rfl, rfl, rfl, rfl, rfl, trivial⟩ ⟨rfl, rfl, trivial⟩ rfl ?_
        refine gi_endR (l := l) (r := r) (w0 := wv) rfl rfl (by rw [← hrr]; exact hwl1) hf1 rfl rfl ⟨rfl, _, _, rfl, hskip (.inr (.inr hv0))⟩
      obtain ⟨p, hp⟩ : ∃ p : Nat, np.p = p := ⟨np.p.toNat, by omega⟩
      have hpi : p < i := by omega
      obtain ⟨q, hq⟩ : ∃ q, t[p]? = some q := ⟨_, List.getElem?_eq_getElem (by omega)⟩
      obtain ⟨f, hf⟩ : ∃ f, d[p]? = some f := ⟨_, List.getElem?_eq_getElem (by omega)⟩
      have htell : RInv t m.wl ms i (o.set i v) (d.set p (nearI f (v + cK q np))) := by
        subst hv; exact hI.tell hnp he hp hpi hq hf (by omega)
      have hcb := cK_b q np
      apply gi_cut (σ := Unit) (fun _ => [(12, I (v + cK q np)), (10, I (i : Int)), (11, .box 6 0), (3, .box 0 0), (4, .box 1 0), (5, .box 2 0), (7, .box 3 0), (8, .box 4 0)]) (fun _ => H7 t m ms np) (fun _ => [eN (o.set i v), eN d]) (fun _ => True) (fun _ => rfl)
      case first =>
        intro fin
        (repeat (first | (refine r_op ?_; refine r_pure hT rfl rfl rfl rfl rfl rfl ?_) | refine gi_seq ?_ | refine gi_plain ?_ | refine gi_skip ?_))
        refine r_case (d := 83) rfl (fun hk => ?_) (fun hk => ?_)
        · have hk1 : np.v.k = 1 := by rw [eqB_eq] at hk; exact of_decide_eq_true hk
          (repeat ((refine r_op ?_; first | refine r_pure hT rfl rfl rfl rfl rfl rfl ?_ | refine r_load hT rfl rfl rfl rfl rfl rfl rfl rfl rfl ?_)))
          refine r_thaw 84 rfl ?_
          refine r_idx (row := q.row) hT rfl rfl rfl rfl rfl rfl rfl rfl rfl rfl rfl rfl (by show 0 ≤ np.p; omega) (by rw [hp, Int.toNat_natCast]; simp [hq]) ?_
          (repeat (first | refine r_end ?_ | (refine r_op ?_; first | refine r_pure hT rfl rfl rfl rfl rfl rfl ?_ | refine r_load hT rfl rfl rfl rfl rfl rfl rfl rfl rfl ?_)))
          refine gi_eq rfl (fun hq1 => ?_) (fun hq1 => ?_)
          · have hc : cK q np = 1 := if_pos ⟨hk1, hq1⟩
            (repeat (first | refine r_end ?_ | (refine r_op ?_; refine r_pure hT rfl rfl rfl rfl rfl rfl ?_) | refine gi_plain_ne 23 rfl ?_))
            exact fin () _ _ _ trivial ⟨by show some (I _) = some (I (v + cK q np)); rw [hc, wr_i64 (by omega) (by omega)], rfl, rfl, rfl, rfl, rfl, rfl, rfl, trivial⟩ ⟨rfl, rfl, rfl, rfl, rfl, rfl, rfl, trivial⟩ ⟨rfl, rfl, trivial⟩
          · have hc : cK q np = 0 := if_neg (fun h => hq1 h.2)
            (repeat (refine gi_skip ?_))
            exact fin () _ _ _ trivial ⟨by show some (I _) = some (I (v + cK q np)); rw [hc, Int.add_zero], rfl, rfl, rfl, rfl, rfl, rfl, rfl, trivial⟩ ⟨rfl, rfl, rfl, rfl, rfl, rfl, rfl, trivial⟩ ⟨rfl, rfl, trivial⟩
        · have hk1 : np.v.k ≠ 1 := by rw [eqB_eq] at hk; exact of_decide_eq_false hk
          have hc : cK q np = 0 := if_neg (fun h => hk1 h.1)
          (repeat (first | refine r_end ?_ | (refine r_op ?_; first | refine r_pure hT rfl rfl rfl rfl rfl rfl ?_ | refine r_off rfl rfl rfl rfl rfl ?_) | refine gi_skip ?_ | (refine gi_cnd ?_; first | refine gi_true rfl ?_ | refine gi_false rfl ?_)))
          skip
          exact fin () _ _ _ trivial ⟨by show some (I _) = some (I (v + cK q np)); rw [hc, Int.add_zero], rfl, rfl, rfl, rfl, rfl, rfl, rfl, trivial⟩ ⟨rfl, rfl, rfl, rfl, rfl, rfl, rfl, trivial⟩ ⟨rfl, rfl, trivial⟩
      case after =>
        intro _ _
        refine gi_drawM [11] [(1, .p), (4, .p), (8, .p), (0, .t), (2, .t), (3, .t), (5, .t), (6, .p), (7, .t), (9, .o), (10, .p), (11, .l)] [0, 0, 2, 0, 0, 16, 40, 64, 0, 384, 1023, 2047] [0, 0, 2, 0, 0, 16, 40, 64, 0, 384, 5, 1536] hm rfl (by kernel_rfl) (fun w1 K => ?_)
        (repeat ((refine r_op ?_; first | refine r_pure hT rfl rfl rfl rfl rfl rfl ?_ | refine r_load hT rfl rfl rfl rfl rfl rfl rfl rfl rfl ?_)))
        refine r_idxS hT rfl rfl rfl rfl rfl rfl rfl rfl rfl rfl rfl rfl rfl (by show 0 ≤ np.p; omega) (by show np.p.toNat < (d.map nRow).length; rw [List.length_map]; omega) ?_
        skip
        refine r_loadS (row := nRow f) hT rfl rfl rfl rfl rfl rfl rfl rfl (by show (d.map nRow)[np.p.toNat]? = _; rw [hp, Int.toNat_natCast, List.getElem?_map, hf]; rfl) rfl rfl rfl ?_
        skip
        refine r_call (nearest_ok f (v + cK q np)) rfl rfl rfl rfl rfl rfl rfl rfl Try.func56 rfl rfl rfl pI ?_
        rintro r2 S2 ⟨rfl, rfl⟩
        skip
        refine r_idxS hT rfl rfl rfl rfl rfl rfl rfl rfl rfl rfl rfl rfl rfl (by show 0 ≤ np.p; omega) (by show np.p.toNat < (d.map nRow).length; rw [List.length_map]; omega) ?_
        skip
        refine r_storeS (row := nRow f) hT rfl rfl rfl rfl rfl rfl rfl rfl rfl rfl rfl rfl rfl (by show (d.map nRow)[np.p.toNat]? = _; rw [hp, Int.toNat_natCast, List.getElem?_map, hf]; rfl) ?_
        (repeat (first | refine r_end ?_ | refine gi_inBlock ?_))
        refine gi_weak (F' := []) (H' := H6 t m ms) (S' := [eN (o.set i v), eN (d.set p (nearI f (v + cK q np)))]) trivial ⟨rfl, rfl, rfl, rfl, rfl, rfl, trivial⟩ ⟨rfl, ?_, trivial⟩ rfl ?_
        · show eN (d.set p (nearI f (v + cK q np))) = some (⟨_, _, (d.map nRow).set np.p.toNat (nRow (nearI f (v + cK q np))), _⟩ : SE)
          rw [hp, Int.toNat_natCast, ← List.map_set]
        refine gi_endR (l := l) (r := r) (w0 := wv) rfl rfl (by rw [← hrr]; exact hwl1) hf1 rfl rfl ⟨rfl, _, _, rfl, htell⟩
  · intro w3 X3 D H1 S1 hpost hnb hbh
    obtain ⟨rfl, o1, d1, rfl, hI1⟩ := hpost
    obtain ⟨xX, xZ, xY, xnb, xB⟩ := X3
    have hnb : xnb = 0 := hnb
    subst hnb
    (repeat (first | refine r_end ?_ | (refine r_op ?_; first | refine r_pure hT rfl rfl rfl rfl rfl rfl ?_ | refine r_load hT rfl rfl rfl rfl rfl rfl rfl rfl rfl ?_) | refine gi_seq ?_ | refine gi_plain ?_ | refine gi_inBlock ?_))
    refine gi_retM hbh rfl hT rfl rfl [] [0] rfl rfl rfl rfl rfl rfl rfl rfl rfl ?_ rfl rfl
    exact ⟨rfl, rfl, o1, rfl, hI1.rch⟩
end Go.Proofs.Ytmocggibcniggaa.Kt
