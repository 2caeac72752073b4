/- Part of the proofs of this seat's statements: what the functions compute. No condition. -/
import Derived.Test.YtmocggibcniggaaG3
set_option linter.unusedSimpArgs false
set_option linter.unusedVariables false
namespace Go.Proofs.Ytmocggibcniggaa.Kt
open Go Kw Go.Proofs
set_option maxRecDepth 100000
/-! ### how Graph makes its list, step by step -/
def emR (j : Nat) : Ls := ⟨0, 1, (j : Int) + 1, (j : Int) + 1, 0, 0, 0, 0, [], 0, [], []⟩
/-- The routers, behind the pairs ahead of i: P is the number of pairs' numbers, non: no link is left out. -/
inductive Gp (k P : Nat) (non : Bool) : Nat → List Ls → Prop
  | start : Gp k P non 0 ((List.range k).map emR)
  | skip {i gs} : Gp k P non i gs → i + 2 < P → i < 36 → Gp k P non (i + 3) gs
  | one {i gs a b xa q} : Gp k P non i gs → i + 2 < P → i < 36 → a < k → b < k → a ≠ b → gs[a]? = some xa → q.k = 1 ∧ q.i = (b : Int) + 1 ∧ q.d = 1000 + (i : Int) ∧ 1 ≤ q.c ∧ q.c ≤ 5 → non = false → Gp k P non (i + 3) (gs.set a (xa.add q))
  | two {i gs a b xa xb q q'} : Gp k P non i gs → i + 2 < P → i < 36 → a < k → b < k → a ≠ b → gs[a]? = some xa → q.k = 1 ∧ q.i = (b : Int) + 1 ∧ q.d = 1000 + (i : Int) ∧ 1 ≤ q.c ∧ q.c ≤ 5 → (gs.set a (xa.add q))[b]? = some xb → q'.k = 1 ∧ q'.i = (a : Int) + 1 ∧ q'.d = 2000 + (i : Int) ∧ 1 ≤ q'.c ∧ q'.c ≤ 7 → Gp k P non (i + 3) ((gs.set a (xa.add q)).set b (xb.add q'))
/-- The routers and the networks, while the nets are gone through. -/
inductive Gn (k P Q : Nat) (non : Bool) : Nat → List Ls → List Ls → Option (Nat × List Int) → Prop
  | start {i gs} : Gp k P non i gs → Gn k P Q non 0 gs [] none
  | into {i gs ns} : Gn k P Q non i gs ns none → i < Q → i < 8 → Gn k P Q non i gs ns (some (0, []))
  | skip {i gs ns r rt} : Gn k P Q non i gs ns (some (r, rt)) → r < k → Gn k P Q non i gs ns (some (r + 1, rt))
  | half {i gs ns r rt z} : Gn k P Q non i gs ns (some (r, rt)) → r < k → non = false → z = (r : Int) + 1 → Gn k P Q non i gs ns (some (r + 1, rt ++ [z]))
  | full {i gs ns r rt x q z} : Gn k P Q non i gs ns (some (r, rt)) → r < k → gs[r]? = some x → q.k = 2 ∧ q.i = 256 * (101 + (i : Int)) ∧ q.d = q.i + 1 + (r : Int) ∧ 1 ≤ q.c ∧ q.c ≤ 4 → z = (r : Int) + 1 → Gn k P Q non i (gs.set r (x.add q)) ns (some (r + 1, rt ++ [z]))
  | out {i gs ns rt id adv} : Gn k P Q non i gs ns (some (k, rt)) → id = 256 * (101 + (i : Int)) → 1 ≤ adv ∧ adv ≤ (k : Int) → Gn k P Q non (i + 1) gs (ns ++ [⟨0, 2, id, adv, 0, 0, 0, 0, [], 24, rt, []⟩]) none
/-- The same, while the stubs are laid. -/
inductive Gf (k P Q : Nat) (non : Bool) : Nat → List Ls → List Ls → Prop
  | start {i gs ns} : Gn k P Q non i gs ns none → Gf k P Q non 0 gs ns
  | stub {r gs ns x q} : Gf k P Q non r gs ns → r < k → gs[r]? = some x → q.k = 3 ∧ q.i = 256 * (201 + (r : Int)) ∧ q.d = 4294967040 ∧ 1 ≤ q.c ∧ q.c ≤ 3 → Gf k P Q non (r + 1) (gs.set r (x.add q)) ns
theorem emR_snoc (k : Nat) : (List.range (k + 1)).map emR = (List.range k).map emR ++ [emR k] := by
  rw [List.range_succ, List.map_append]; rfl
structure Mde (n : Int) (P Q : Nat) (non : Bool) (l : List Ls) : Prop where
  ex : ∃ (k : Nat) (gs ns : List Ls), (k : Int) = 1 + n % 6 ∧ l = gs ++ ns ∧ Gf k P Q non k gs ns
abbrev RGm (n : Int) (P Q : Nat) (non : Bool) : AV → Hp → Sp → Prop := fun r H S => ∃ l, GrOk n l ∧ Mde n P Q non l ∧ r = .sl 0 ∧ H = [] ∧ S = [eO l]
theorem pGm {n : Int} {P Q : Nat} {non : Bool} : ∀ r H1 S1, RGm n P Q non r H1 S1 → stA r = true ∧ StH H1 ∧ StS S1 := fun r H S ⟨l, h, _, h1, h2, h3⟩ => pG r H S ⟨l, h, h1, h2, h3⟩
theorem cost_rm1 {e : Int} (m : Int) (h0 : 0 ≤ e) (hm : 0 < m) (hm' : m ≤ 6) : 1 ≤ wr .i64 (1 + rm e m) ∧ wr .i64 (1 + rm e m) ≤ m := by
  rw [rm_pos h0]
  have := Int.emod_nonneg e (show m ≠ 0 by omega)
  have := Int.emod_lt_of_pos e hm
  rw [wr_i64 (by omega) (by omega)]
  omega
end Go.Proofs.Ytmocggibcniggaa.Kt
namespace Go.Proofs.Ytmocggibcniggaa.Kt
open Go Kw Go.Proofs
attribute [local irreducible] Kw.GI Kw.GR Kw.FnR Kw.FnX
set_option maxHeartbeats 16000000
set_option maxRecDepth 100000
theorem eO_link2 {gs ns : List Ls} {a : Nat} (ha : a < gs.length) (x : Ls) (q : Lk) (T : Sp) : (some (⟨51, 12, (((gs ++ ns).map Ls.rowO).set a (x.rowO.set 8 .any)).set a ((x.rowO.set 8 .any).set 8 (.os 54 4 (x.lk.map Lk.row ++ [q.row]))), true⟩ : SE) :: T : Sp) = eO (gs.set a (x.add q) ++ ns) :: T := by
  rw [eO_link x q T, set_app_left ha]
theorem lk1 {i d c : Int} (h : 0 ≤ c ∧ c ≤ 10) : LkOk ⟨1, i, d, c⟩ := ⟨h.1, h.2, fun e => by cases e⟩
theorem lk2 {i d c : Int} (h : 0 ≤ c ∧ c ≤ 10) : LkOk ⟨2, i, d, c⟩ := ⟨h.1, h.2, fun e => by cases e⟩
theorem idx_nat {k : Nat} {v : Int} (hk : 0 < k) (hv : 0 ≤ v) : ∃ a : Nat, rm v k = a ∧ a < k := by
  rw [rm_pos hv]
  have h1 := Int.emod_nonneg v (show (k : Int) ≠ 0 by omega)
  have h2 := Int.emod_lt_of_pos v (show (0 : Int) < k by omega)
  exact ⟨(v % k).toNat, by omega, by omega⟩
theorem ne_nil {α : Type} {l : List α} {t : Nat} {o : α} (h : l[t]? = some o) : l.isEmpty = false := by cases l with
  | nil => simp at h
  | cons => rfl
theorem GraphM_ok (n : Int) (hn : 0 ≤ n ∧ n ≤ 255) (ps qs : List Int) (hps : ∀ p ∈ ps, 0 ≤ p ∧ p ≤ 255) (hqs : ∀ p ∈ qs, 0 ≤ p ∧ p ≤ 255) (one : List Bool) : FnX Try.prog 28 [u8 n, rs8 ps, rs8 qs, rsB one] [] [] (RGm n ps.length qs.length one.isEmpty) := by
  refine fnX_intro (T := TT) (n := 235) Try.func28 rfl rfl rfl (fun w X Z Y B => ?_)
  obtain ⟨k, hk⟩ : ∃ k : Nat, (k : Int) = 1 + n % 6 := ⟨(1 + n % 6).toNat, by omega⟩
  have hk1 : 1 ≤ k ∧ k ≤ 6 := by omega
  (repeat (first | refine r_end ?_ | (refine r_op ?_; refine r_pure hT rfl rfl rfl rfl rfl rfl ?_) | refine gi_seq ?_ | refine gi_plain_ne 2 rfl ?_))
  refine gi_turn (d := 9) (y := I (k : Int)) rfl (by rw [wr_i64 (n := n) (by omega) (by omega), rm_pos hn.1, wr_i64 (by omega) (by omega), hk]) ?_
  (repeat (first | refine r_end ?_ | (refine r_op ?_; refine r_pure hT rfl rfl rfl rfl rfl rfl ?_) | refine gi_seq ?_ | refine gi_plain ?_ | refine gi_block ?_))
  refine gi_adopt (e := 51) (sz := 12) 10 rfl ?_
  refine gi_rows 0 (se' := seO []) rfl ⟨rfl, rfl, rfl⟩ rows_nest ?_
  refine gi_loop (σ := Nat × List Ls) (fun s => [(11, I ((s.1 : Int) + 1)), (9, I k), (10, .sl 0), (1, rs8 ps), (2, rs8 qs), (3, rsB one)]) (fun _ => []) (fun s => [eO s.2]) (fun s => s.1 ≤ k ∧ Gs s.1 0 s.2 ∧ s.2 = (List.range s.1).map emR) (fun s => k - s.1) (0, []) ⟨Nat.zero_le _, Gs.nil, rfl⟩ ⟨rfl, rfl, rfl, rfl, rfl, rfl, trivial⟩ trivial ⟨rfl, trivial⟩ (fun _ => rfl) (fun s hs next => ?_)
  obtain ⟨j, gs⟩ := s
  obtain ⟨hj, hG, hM⟩ := hs
  simp only at hj hG hM
  have hgl := hG.len
  (repeat (first | refine r_end ?_ | (refine r_op ?_; refine r_pure hT rfl rfl rfl rfl rfl rfl ?_) | refine gi_seq ?_ | refine gi_plain ?_))
  refine gi_le rfl (fun h3 => ?_) (fun h3 => ?_)
  · (repeat (first | (refine r_op ?_; first | refine r_pure hT rfl rfl rfl rfl rfl rfl ?_ | refine r_lit hT rfl rfl rfl rfl rfl rfl rfl rfl rfl rfl rfl rfl rfl ?_) | refine gi_seq ?_ | refine gi_plain ?_ | refine gi_skip ?_ | refine gi_block ?_))
    refine r_append hT rfl rfl rfl rfl rfl rfl rfl rfl rfl rfl rfl rfl rfl rfl rfl rfl rfl (by simp only [List.length_cons, List.length_nil, List.length_map, maxLen]; exact ⟨by omega, by show _ * 144 ≤ _; omega⟩) ?_
    (repeat (first | refine r_end ?_ | (refine r_op ?_; refine r_pure hT rfl rfl rfl rfl rfl rfl ?_) | refine gi_plain ?_ | refine gi_inBlock ?_))
    refine gi_rows 0 (se' := seO (gs ++ [⟨0, 1, j + 1, j + 1, 0, 0, 0, 0, [], 0, [], []⟩])) rfl ⟨rfl, rfl, by simp⟩ (by rw [eO_snoc gs _ _ rfl]; exact rows_last (raw_le (le_fs 1))) ?_
    refine next (j + 1, gs ++ [⟨0, 1, j + 1, j + 1, 0, 0, 0, 0, [], 0, [], []⟩]) _ _ _ ⟨by simp only; omega, hG.snoc, by rw [emR_snoc, ← hM]; rfl⟩ (by simp only; omega) ⟨?_, rfl, rfl, rfl, rfl, rfl, trivial⟩ trivial ⟨rfl, trivial⟩
    show some (I (wr .i64 ((j : Int) + 1 + 1))) = _
    rw [wr_i64 (by omega) (by omega)]
    simp
  obtain rfl : j = k := by omega
  (repeat (first | refine r_end ?_ | (refine r_op ?_; refine r_pure hT rfl rfl rfl rfl rfl rfl ?_) | refine gi_seq ?_ | refine gi_plain ?_ | refine gi_block ?_ | refine gi_exit rfl ?_))
  refine gi_loop (σ := Nat × Nat × List Ls) (fun s => [(13, I s.1), (12, I s.2.1), (9, I j), (10, .sl 0), (1, rs8 ps), (2, rs8 qs), (3, rsB one)]) (fun _ => []) (fun s => [eO s.2.2]) (fun s => s.1 ≤ 40 ∧ s.2.1 ≤ s.1 ∧ Gs j s.1 s.2.2 ∧ Gp j ps.length one.isEmpty s.1 s.2.2) (fun s => 50 - s.1) (0, 0, gs) ⟨Nat.zero_le _, Nat.zero_le _, hG, by rw [hM]; exact .start⟩ ⟨rfl, rfl, rfl, rfl, rfl, rfl, rfl, trivial⟩ trivial ⟨rfl, trivial⟩ (fun _ => rfl) (fun s hs next => ?_)
  obtain ⟨i, t, gs⟩ := s
  obtain ⟨hi, ht, hG, hM⟩ := hs
  simp only at hi ht hG hM
  have hgl := hG.len
  (repeat (refine gi_seq ?_))
  apply gi_cut (σ := Unit) (fun _ => [(12, I t), (9, I j), (10, .sl 0), (1, rs8 ps), (2, rs8 qs), (3, rsB one)]) (fun _ => []) (fun _ => [eO gs]) (fun _ => True) (fun _ => rfl)
  case first =>
    intro fin
    (repeat (first | (refine r_op ?_; refine r_pure hT rfl rfl rfl rfl rfl rfl ?_) | refine gi_plain ?_))
    refine r_case (d := 42) rfl (fun c1 => ?_) (fun c1 => ?_)
    · rw [ltB_eq, wr_i64 (by omega) (by omega)] at c1
      have c1 := of_decide_eq_true c1
      rw [List.length_map] at c1
      (repeat (first | refine r_end ?_ | (refine r_op ?_; refine r_pure hT rfl rfl rfl rfl rfl rfl ?_)))
      refine gi_lt rfl (fun h4 => ?_) (fun h4 => ?_)
      · obtain ⟨p0, hp0⟩ : ∃ x, ps[i]? = some x := ⟨_, List.getElem?_eq_getElem (by omega)⟩
        obtain ⟨p1, hp1⟩ : ∃ x, ps[i + 1]? = some x := ⟨_, List.getElem?_eq_getElem (by omega)⟩
        obtain ⟨p2, hp2⟩ : ∃ x, ps[i + 2]? = some x := ⟨_, List.getElem?_eq_getElem (by omega)⟩
        have r0 := hps p0 (List.mem_of_getElem? hp0)
        have r1 := hps p1 (List.mem_of_getElem? hp1)
        have r2 := hps p2 (List.mem_of_getElem? hp2)
        obtain ⟨a, ha, hal⟩ := idx_nat (k := j) (by omega) r0.1
        obtain ⟨b, hb, hbl⟩ := idx_nat (k := j) (by omega) r1.1
        (repeat (first | refine gi_seq ?_ | refine gi_skip ?_ | refine gi_block ?_))
        refine gi_drawM [] [(0, .p), (1, .p), (2, .p), (5, .p), (7, .p), (8, .p), (9, .p), (10, .p), (13, .p), (3, .t), (4, .p), (6, .p), (15, .p), (11, .t), (12, .p), (14, .p), (16, .p)] [0, 0, 3, 4, 8, 0, 48, 0, 0, 256, 640, 1024, 2048, 0, 12288, 127, 65535] [0, 0, 3, 4, 8, 0, 48, 0, 0, 256, 640, 1024, 2048, 0, 12288, 64, 16384] Kt.hm rfl (by kernel_rfl) (fun w1 K => ?_)
        (repeat ((refine r_op ?_; refine r_pure hT rfl rfl rfl rfl rfl rfl ?_)))
        refine r_idx (row := [.v (.int .u8 p0)]) hT rfl rfl rfl rfl rfl rfl rfl rfl rfl rfl rfl rfl (by omega) (by simp [hp0]) ?_
        (repeat ((refine r_op ?_; refine r_pure hT rfl rfl rfl rfl rfl rfl ?_)))
        refine r_idx (row := [.v (.int .u8 p1)]) hT rfl rfl rfl rfl rfl rfl rfl rfl rfl rfl rfl rfl (by rw [wr_i64 (by omega) (by omega)]; omega) (by rw [wr_i64 (by omega) (by omega), show ((i : Int) + 1).toNat = i + 1 by omega]; simp [hp1]) ?_
        (repeat ((refine r_op ?_; first | refine r_pure hT rfl rfl rfl rfl rfl rfl ?_ | refine r_load hT rfl rfl rfl rfl rfl rfl rfl rfl rfl ?_)))
        refine r_rem (n := a) (p' := (j : Int)) rfl rfl rfl rfl rfl rfl rfl rfl (by omega) (by rw [wr_i64 (n := p0) (by omega) (by omega), ha]) ?_
        (repeat ((refine r_op ?_; first | refine r_pure hT rfl rfl rfl rfl rfl rfl ?_ | refine r_load hT rfl rfl rfl rfl rfl rfl rfl rfl rfl ?_)))
        refine r_rem (n := b) (p' := (j : Int)) rfl rfl rfl rfl rfl rfl rfl rfl (by omega) (by rw [wr_i64 (n := p1) (by omega) (by omega), hb]) ?_
        (repeat (first | refine r_end ?_ | (refine r_op ?_; refine r_pure hT rfl rfl rfl rfl rfl rfl ?_) | refine gi_seq ?_ | refine gi_plain ?_))
        refine gi_eq rfl (fun h5 => ?_) (fun h5 => ?_)
        · (repeat (first | refine r_end ?_ | (refine r_op ?_; refine r_pure hT rfl rfl rfl rfl rfl rfl ?_) | refine gi_plain ?_ | refine gi_exit rfl ?_))
          refine next (i + 3, t, gs) _ _ _ ⟨by simp only; omega, by simp only; omega, hG.mono (by simp only; omega), hM.skip (by omega) (by omega)⟩ (by simp only; omega) ⟨?_, rfl, rfl, rfl, rfl, rfl, rfl, trivial⟩ trivial ⟨rfl, trivial⟩
          show some (I (wr .i64 ((i : Int) + 3))) = _
          rw [wr_i64 (by omega) (by omega)]
          simp
        (repeat (first | (refine r_op ?_; refine r_pure hT rfl rfl rfl rfl rfl rfl ?_) | refine gi_seq ?_ | refine gi_plain ?_ | refine gi_skip ?_))
        refine r_idx (row := [.v (.int .u8 p2)]) hT rfl rfl rfl rfl rfl rfl rfl rfl rfl rfl rfl rfl (by rw [wr_i64 (by omega) (by omega)]; omega) (by rw [wr_i64 (by omega) (by omega), show ((i : Int) + 2).toNat = i + 2 by omega]; simp [hp2]) ?_
        (repeat (first | refine r_end ?_ | (refine r_op ?_; first | refine r_pure hT rfl rfl rfl rfl rfl rfl ?_ | refine r_load hT rfl rfl rfl rfl rfl rfl rfl rfl rfl ?_) | refine gi_seq ?_))
        obtain ⟨c, hc⟩ : ∃ c : Int, c = wr .i64 (1 + rm (wr .i64 p2) 5) := ⟨_, rfl⟩
        have hcr : 1 ≤ c ∧ c ≤ 5 := by rw [hc, wr_i64 (n := p2) (by omega) (by omega)]; exact cost_rm1 5 r2.1 (by omega) (by omega)
        refine gi_turn (d := 16) (y := I c) rfl (by rw [hc]) ?_
        obtain ⟨xa, hxa⟩ : ∃ x, gs[a]? = some x := ⟨_, List.getElem?_eq_getElem (by omega)⟩
        have hla := (hG.el a xa hxa).2.2
        (repeat (first | (refine r_op ?_; refine r_pure hT rfl rfl rfl rfl rfl rfl ?_) | refine gi_plain ?_))
        refine r_idxS hT rfl rfl rfl rfl rfl rfl rfl rfl rfl rfl rfl rfl rfl (by omega) (by show a < ((gs).map Ls.rowO).length; simp only [List.length_map, List.length_set, List.length_append]; omega) ?_
        (repeat ((refine r_op ?_; refine r_pure hT rfl rfl rfl rfl rfl rfl ?_)))
        refine r_takeS (row := xa.rowO) hT rfl rfl rfl rfl rfl rfl rfl rfl (by show ((gs).map Ls.rowO)[a]? = _; rw [List.getElem?_map, hxa]; rfl) rfl rfl rfl rfl ?_
        (repeat ((refine r_op ?_; first | refine r_pure hT rfl rfl rfl rfl rfl rfl ?_ | refine r_lit hT rfl rfl rfl rfl rfl rfl rfl rfl rfl rfl rfl rfl rfl ?_)))
        refine r_append hT rfl rfl rfl rfl rfl rfl rfl rfl rfl rfl rfl rfl rfl rfl rfl rfl rfl (by simp only [List.length_cons, List.length_nil, List.length_map, maxLen]; exact ⟨by omega, by show _ * 32 ≤ _; omega⟩) ?_
        skip
        refine r_idxS hT rfl rfl rfl rfl rfl rfl rfl rfl rfl rfl rfl rfl rfl (by omega) (by show a < (((gs).map Ls.rowO).set a (xa.rowO.set 8 .any)).length; simp only [List.length_map, List.length_set, List.length_append]; omega) ?_
        (repeat ((refine r_op ?_; refine r_pure hT rfl rfl rfl rfl rfl rfl ?_)))
        refine r_giveS (row := xa.rowO.set 8 .any) hT rfl rfl rfl rfl rfl rfl rfl rfl rfl rfl rfl rfl rfl rfl (List.getElem?_set_self (by simp only [List.length_map, List.length_append]; omega)) rfl ?_
        refine r_eqS _ (eO_link (a := a) xa ⟨_, _, _, _⟩ _) ?_
        have hG2 := hG.add hxa (lk1 (i := wr .i64 ((b : Int) + 1)) (d := wr .i64 (1000 + (i : Int))) (c := c) ⟨by omega, by omega⟩)
        have hab : a ≠ b := by omega
        have hq1 : wr .i64 ((b : Int) + 1) = (b : Int) + 1 ∧ wr .i64 (1000 + (i : Int)) = 1000 + (i : Int) := ⟨wr_i64 (by omega) (by omega), wr_i64 (by omega) (by omega)⟩
        have hM1 : one.isEmpty = false → Gp j ps.length one.isEmpty (i + 3) _ := fun hz => hM.one (by omega) (by omega) hal hbl hab hxa (q := ⟨1, wr .i64 ((b : Int) + 1), wr .i64 (1000 + (i : Int)), c⟩) ⟨rfl, hq1.1, hq1.2, hcr.1, hcr.2⟩ hz
        have hM2 := fun (xb : Ls) (q' : Lk) hxb hq' => hM.two (by omega) (by omega) hal hbl hab hxa (q := ⟨1, wr .i64 ((b : Int) + 1), wr .i64 (1000 + (i : Int)), c⟩) (xb := xb) (q' := q') ⟨rfl, hq1.1, hq1.2, hcr.1, hcr.2⟩ hxb hq'
        generalize gs.set a (xa.add _) = g2 at hG2 hM1 hM2 ⊢
        have hgl2 := hG2.len
        obtain ⟨xb, hxb⟩ : ∃ x, g2[b]? = some x := ⟨_, List.getElem?_eq_getElem (by omega)⟩
        have hlb := (hG2.el b xb hxb).2.2
        have hcr2 : 1 ≤ wr .i64 (c + rm i 3) ∧ wr .i64 (c + rm i 3) ≤ 7 := by
          rw [rm_pos (by omega)]
          have h6 := Int.emod_nonneg (i : Int) (show (3 : Int) ≠ 0 by omega)
          have h7 := Int.emod_lt_of_pos (i : Int) (show (0 : Int) < 3 by omega)
          rw [wr_i64 (by omega) (by omega)]; omega
        (repeat (first | refine r_end ?_ | (refine r_op ?_; refine r_pure hT rfl rfl rfl rfl rfl rfl ?_) | refine gi_seq ?_ | refine gi_plain ?_))
        refine r_case (d := 95) rfl (fun c2 => ?_) (fun c2 => ?_)
        · (repeat (first | refine r_end ?_ | (refine r_op ?_; first | refine r_pure hT rfl rfl rfl rfl rfl rfl ?_ | refine r_off rfl rfl rfl rfl rfl ?_) | refine gi_plain ?_ | (refine gi_cnd ?_; first | refine gi_true rfl ?_ | refine gi_false rfl ?_)))
          refine r_idxS hT rfl rfl rfl rfl rfl rfl rfl rfl rfl rfl rfl rfl rfl (by omega) (by show b < ((g2).map Ls.rowO).length; simp only [List.length_map, List.length_set, List.length_append]; omega) ?_
          (repeat ((refine r_op ?_; refine r_pure hT rfl rfl rfl rfl rfl rfl ?_)))
          refine r_takeS (row := xb.rowO) hT rfl rfl rfl rfl rfl rfl rfl rfl (by show ((g2).map Ls.rowO)[b]? = _; rw [List.getElem?_map, hxb]; rfl) rfl rfl rfl rfl ?_
          (repeat ((refine r_op ?_; first | refine r_pure hT rfl rfl rfl rfl rfl rfl ?_ | refine r_lit hT rfl rfl rfl rfl rfl rfl rfl rfl rfl rfl rfl rfl rfl ?_)))
          refine r_append hT rfl rfl rfl rfl rfl rfl rfl rfl rfl rfl rfl rfl rfl rfl rfl rfl rfl (by simp only [List.length_cons, List.length_nil, List.length_map, maxLen]; exact ⟨by omega, by show _ * 32 ≤ _; omega⟩) ?_
          skip
          refine r_idxS hT rfl rfl rfl rfl rfl rfl rfl rfl rfl rfl rfl rfl rfl (by omega) (by show b < (((g2).map Ls.rowO).set b (xb.rowO.set 8 .any)).length; simp only [List.length_map, List.length_set, List.length_append]; omega) ?_
          (repeat ((refine r_op ?_; refine r_pure hT rfl rfl rfl rfl rfl rfl ?_)))
          refine r_giveS (row := xb.rowO.set 8 .any) hT rfl rfl rfl rfl rfl rfl rfl rfl rfl rfl rfl rfl rfl rfl (List.getElem?_set_self (by simp only [List.length_map, List.length_append]; omega)) rfl ?_
          refine r_eqS _ (eO_link (a := b) xb ⟨_, _, _, _⟩ _) ?_
          have hG3 := hG2.add hxb (lk1 (i := wr .i64 ((a : Int) + 1)) (d := wr .i64 (2000 + (i : Int))) (c := wr .i64 (c + rm i 3)) ⟨by omega, by omega⟩)
          have hM3 := hM2 xb ⟨1, wr .i64 ((a : Int) + 1), wr .i64 (2000 + (i : Int)), wr .i64 (c + rm i 3)⟩ hxb ⟨rfl, wr_i64 (by omega) (by omega), wr_i64 (by omega) (by omega), hcr2.1, hcr2.2⟩
          clear hM1 hM2
          generalize g2.set b (xb.add _) = g3 at hG3 hM3 ⊢
          (repeat (first | refine r_end ?_ | (refine r_op ?_; refine r_pure hT rfl rfl rfl rfl rfl rfl ?_) | refine gi_plain ?_ | refine gi_inBlock ?_))
          refine next (i + 3, t + 1, g3) _ _ _ ⟨by simp only; omega, by simp only; omega, hG3.mono (by simp only; omega), hM3⟩ (by simp only; omega) ⟨?_, ?_, rfl, rfl, rfl, rfl, rfl, trivial⟩ trivial ⟨rfl, trivial⟩
          · show some (I (wr .i64 ((i : Int) + 3))) = _
            rw [wr_i64 (by omega) (by omega)]
            simp
          · show some (I (wr .i64 ((t : Int) + 1))) = _
            rw [wr_i64 (by omega) (by omega)]
            simp
        · rw [leB_eq] at c2
          have c2 := of_decide_eq_false c2
          rw [List.length_map] at c2
          simp only at c2
          obtain ⟨o, ho⟩ : ∃ o, one[t]? = some o := ⟨_, List.getElem?_eq_getElem (by omega)⟩
          (repeat ((refine r_op ?_; refine r_pure hT rfl rfl rfl rfl rfl rfl ?_)))
          refine r_idx (row := [.v (.bool o)]) hT rfl rfl rfl rfl rfl rfl rfl rfl rfl rfl rfl rfl (by omega) (by simp [ho]) ?_
          (repeat (first | refine r_end ?_ | (refine r_op ?_; first | refine r_pure hT rfl rfl rfl rfl rfl rfl ?_ | refine r_load hT rfl rfl rfl rfl rfl rfl rfl rfl rfl ?_)))
          refine gi_cond rfl (fun c3 => ?_) (fun c3 => ?_)
          · (repeat (first | (refine r_op ?_; refine r_pure hT rfl rfl rfl rfl rfl rfl ?_) | refine gi_plain ?_))
            refine r_idxS hT rfl rfl rfl rfl rfl rfl rfl rfl rfl rfl rfl rfl rfl (by omega) (by show b < ((g2).map Ls.rowO).length; simp only [List.length_map, List.length_set, List.length_append]; omega) ?_
            (repeat ((refine r_op ?_; refine r_pure hT rfl rfl rfl rfl rfl rfl ?_)))
            refine r_takeS (row := xb.rowO) hT rfl rfl rfl rfl rfl rfl rfl rfl (by show ((g2).map Ls.rowO)[b]? = _; rw [List.getElem?_map, hxb]; rfl) rfl rfl rfl rfl ?_
            (repeat ((refine r_op ?_; first | refine r_pure hT rfl rfl rfl rfl rfl rfl ?_ | refine r_lit hT rfl rfl rfl rfl rfl rfl rfl rfl rfl rfl rfl rfl rfl ?_)))
            refine r_append hT rfl rfl rfl rfl rfl rfl rfl rfl rfl rfl rfl rfl rfl rfl rfl rfl rfl (by simp only [List.length_cons, List.length_nil, List.length_map, maxLen]; exact ⟨by omega, by show _ * 32 ≤ _; omega⟩) ?_
            skip
            refine r_idxS hT rfl rfl rfl rfl rfl rfl rfl rfl rfl rfl rfl rfl rfl (by omega) (by show b < (((g2).map Ls.rowO).set b (xb.rowO.set 8 .any)).length; simp only [List.length_map, List.length_set, List.length_append]; omega) ?_
            (repeat ((refine r_op ?_; refine r_pure hT rfl rfl rfl rfl rfl rfl ?_)))
            refine r_giveS (row := xb.rowO.set 8 .any) hT rfl rfl rfl rfl rfl rfl rfl rfl rfl rfl rfl rfl rfl rfl (List.getElem?_set_self (by simp only [List.length_map, List.length_append]; omega)) rfl ?_
            refine r_eqS _ (eO_link (a := b) xb ⟨_, _, _, _⟩ _) ?_
            have hG3 := hG2.add hxb (lk1 (i := wr .i64 ((a : Int) + 1)) (d := wr .i64 (2000 + (i : Int))) (c := wr .i64 (c + rm i 3)) ⟨by omega, by omega⟩)
            have hM3 := hM2 xb ⟨1, wr .i64 ((a : Int) + 1), wr .i64 (2000 + (i : Int)), wr .i64 (c + rm i 3)⟩ hxb ⟨rfl, wr_i64 (by omega) (by omega), wr_i64 (by omega) (by omega), hcr2.1, hcr2.2⟩
            clear hM1 hM2
            generalize g2.set b (xb.add _) = g3 at hG3 hM3 ⊢
            (repeat (first | refine r_end ?_ | (refine r_op ?_; refine r_pure hT rfl rfl rfl rfl rfl rfl ?_) | refine gi_plain ?_ | refine gi_inBlock ?_))
            refine next (i + 3, t + 1, g3) _ _ _ ⟨by simp only; omega, by simp only; omega, hG3.mono (by simp only; omega), hM3⟩ (by simp only; omega) ⟨?_, ?_, rfl, rfl, rfl, rfl, rfl, trivial⟩ trivial ⟨rfl, trivial⟩
            · show some (I (wr .i64 ((i : Int) + 3))) = _
              rw [wr_i64 (by omega) (by omega)]
              simp
            · show some (I (wr .i64 ((t : Int) + 1))) = _
              rw [wr_i64 (by omega) (by omega)]
              simp
          · (repeat (first | refine r_end ?_ | (refine r_op ?_; refine r_pure hT rfl rfl rfl rfl rfl rfl ?_) | refine gi_plain ?_ | refine gi_skip ?_ | refine gi_inBlock ?_))
            refine next (i + 3, t + 1, g2) _ _ _ ⟨by simp only; omega, by simp only; omega, hG2.mono (by simp only; omega), hM1 (ne_nil ho)⟩ (by simp only; omega) ⟨?_, ?_, rfl, rfl, rfl, rfl, rfl, trivial⟩ trivial ⟨rfl, trivial⟩
            · show some (I (wr .i64 ((i : Int) + 3))) = _
              rw [wr_i64 (by omega) (by omega)]
              simp
            · show some (I (wr .i64 ((t : Int) + 1))) = _
              rw [wr_i64 (by omega) (by omega)]
              simp
      · (repeat (first | refine gi_seq ?_ | refine gi_exit rfl ?_))
        exact fin () _ _ _ trivial ⟨rfl, rfl, rfl, rfl, rfl, rfl, trivial⟩ trivial ⟨rfl, trivial⟩
    · (repeat (first | refine r_end ?_ | (refine r_op ?_; first | refine r_pure hT rfl rfl rfl rfl rfl rfl ?_ | refine r_off rfl rfl rfl rfl rfl ?_) | refine gi_seq ?_ | refine gi_exit rfl ?_ | (refine gi_cnd ?_; first | refine gi_true rfl ?_ | refine gi_false rfl ?_)))
      exact fin () _ _ _ trivial ⟨rfl, rfl, rfl, rfl, rfl, rfl, trivial⟩ trivial ⟨rfl, trivial⟩
  case after =>
    intro _ _
    (repeat (first | refine r_end ?_ | (refine r_op ?_; refine r_pure hT rfl rfl rfl rfl rfl rfl ?_) | refine gi_plain ?_ | refine gi_block ?_))
    refine gi_loop (σ := Nat × Nat × List Ls × List Ls) (fun s => [(17, I s.1), (12, I s.2.1), (9, I j), (10, .sl 0), (1, rs8 ps), (2, rs8 qs), (3, rsB one)]) (fun _ => []) (fun s => [eO (s.2.2.1 ++ s.2.2.2)]) (fun s => s.1 ≤ 8 ∧ s.2.1 ≤ 40 + 8 * s.1 ∧ Gs j (40 + 8 * s.1) s.2.2.1 ∧ NsOk s.2.2.2 ∧ s.2.2.2.length = s.1 ∧ Gn j ps.length qs.length one.isEmpty s.1 s.2.2.1 s.2.2.2 none) (fun s => 10 - s.1) (0, t, gs, []) ⟨Nat.zero_le _, by simp only; omega, hG.mono (by simp only; omega), NsOk.nil, rfl, .start hM⟩ ⟨rfl, rfl, rfl, rfl, rfl, rfl, rfl, trivial⟩ trivial ⟨by rw [List.append_nil], trivial⟩ (fun _ => rfl) (fun s hs next => ?_)
    obtain ⟨i2, t, gs, ns⟩ := s
    obtain ⟨hi2, ht, hG, hN, hnl, hM⟩ := hs
    simp only at hi2 ht hG hN hnl hM
    have hgl := hG.len
    (repeat (refine gi_seq ?_))
    apply gi_cut (σ := Unit) (fun _ => [(12, I t), (9, I j), (10, .sl 0), (1, rs8 ps), (2, rs8 qs), (3, rsB one)]) (fun _ => []) (fun _ => [eO (gs ++ ns)]) (fun _ => True) (fun _ => rfl)
    case first =>
      intro fin
      (repeat (first | (refine r_op ?_; refine r_pure hT rfl rfl rfl rfl rfl rfl ?_) | refine gi_plain ?_))
      refine r_case (d := 128) rfl (fun c1 => ?_) (fun c1 => ?_)
      · rw [ltB_eq] at c1
        have c1 := of_decide_eq_true c1
        rw [List.length_map] at c1
        (repeat (first | refine r_end ?_ | (refine r_op ?_; refine r_pure hT rfl rfl rfl rfl rfl rfl ?_)))
        refine gi_lt rfl (fun h4 => ?_) (fun h4 => ?_)
        · obtain ⟨p0, hp0⟩ : ∃ x, qs[i2]? = some x := ⟨_, List.getElem?_eq_getElem (by omega)⟩
          have r0 := hqs p0 (List.mem_of_getElem? hp0)
          obtain ⟨a, ha, hal⟩ := idx_nat (k := j) (by omega) r0.1
          obtain ⟨id, hid⟩ : ∃ id : Int, id = (101 + (i2 : Int)) * 256 := ⟨_, rfl⟩
          have hidw : wr .i64 (wr .i64 (101 + (i2 : Int)) * 2 ^ (min (8 : Int).toNat (IntKind.bits .i64))) = id := by
            rw [wr_i64 (n := 101 + (i2 : Int)) (by omega) (by omega), show (2 : Int) ^ (min (8 : Int).toNat (IntKind.bits .i64)) = 256 from rfl, wr_i64 (by omega) (by omega), hid]
          (repeat (first | (refine r_op ?_; refine r_pure hT rfl rfl rfl rfl rfl rfl ?_) | refine gi_seq ?_ | refine gi_plain ?_ | refine gi_skip ?_ | refine gi_block ?_))
          refine r_shl (n := id) rfl rfl rfl rfl rfl rfl rfl rfl (by decide) hidw ?_
          (repeat ((refine r_op ?_; refine r_pure hT rfl rfl rfl rfl rfl rfl ?_)))
          refine r_idx (row := [.v (.int .u8 p0)]) hT rfl rfl rfl rfl rfl rfl rfl rfl rfl rfl rfl rfl (by omega) (by simp [hp0]) ?_
          (repeat ((refine r_op ?_; first | refine r_pure hT rfl rfl rfl rfl rfl rfl ?_ | refine r_load hT rfl rfl rfl rfl rfl rfl rfl rfl rfl ?_)))
          refine r_rem (n := a) (p' := (j : Int)) rfl rfl rfl rfl rfl rfl rfl rfl (by omega) (by rw [wr_i64 (n := p0) (by omega) (by omega), ha]) ?_
          (repeat (first | refine r_end ?_ | (refine r_op ?_; first | refine r_pure hT rfl rfl rfl rfl rfl rfl ?_ | refine r_store hT rfl rfl rfl rfl rfl rfl rfl rfl rfl rfl ?_ | refine r_alloc hT rfl rfl rfl rfl rfl rfl rfl rfl rfl ?_) | refine gi_seq ?_ | refine gi_plain ?_ | refine gi_block ?_))
          refine gi_adoptH (e := 3) (sz := 1) 0 10 rfl rfl ?_
          refine gi_loop (σ := Nat × Nat × List Ls × List Int) (fun s => [(19, I s.1), (12, I s.2.1), (17, I i2), (18, .box 0 0), (9, I j), (10, .sl 0), (1, rs8 ps), (2, rs8 qs), (3, rsB one)]) (fun _ => [some (51, [I 0, I 2, I id, I (wr .i64 (1 + a)), I 0, I 0, I 0, I 0, .r (.v (.slice none 0 0)), I 24, .sl 1, .r (.v (.slice none 0 0))])]) (fun s => [eO (s.2.2.1 ++ ns), eN s.2.2.2]) (fun s => s.1 ≤ j ∧ s.2.1 ≤ 40 + 8 * i2 + s.1 ∧ Gs j (40 + 8 * i2 + s.1) s.2.2.1 ∧ s.2.2.2.length ≤ s.1 ∧ Gn j ps.length qs.length one.isEmpty i2 s.2.2.1 ns (some (s.1, s.2.2.2))) (fun s => j - s.1) (0, t, gs, []) ⟨Nat.zero_le _, ht, hG, Nat.le_refl _, hM.into (by omega) (by omega)⟩ ⟨rfl, rfl, rfl, rfl, rfl, rfl, rfl, rfl, rfl, trivial⟩ ⟨rfl, trivial⟩ ⟨rfl, rfl, trivial⟩ (fun _ => rfl) (fun s hs next2 => ?_)
          obtain ⟨r, t, gs, rt⟩ := s
          obtain ⟨hr, ht, hG, hrt, hM⟩ := hs
          simp only at hr ht hG hrt hM
          have hgl := hG.len
          (repeat (first | refine r_end ?_ | (refine r_op ?_; refine r_pure hT rfl rfl rfl rfl rfl rfl ?_) | refine gi_seq ?_ | refine gi_plain ?_))
          refine gi_lt rfl (fun h5 => ?_) (fun h5 => ?_)
          · (repeat (first | (refine r_op ?_; refine r_pure hT rfl rfl rfl rfl rfl rfl ?_) | refine gi_seq ?_ | refine gi_plain ?_ | refine gi_skip ?_ | refine gi_block ?_))
            refine r_idx (row := [.v (.int .u8 p0)]) hT rfl rfl rfl rfl rfl rfl rfl rfl rfl rfl rfl rfl (by omega) (by simp [hp0]) ?_
            (repeat ((refine r_op ?_; first | refine r_pure hT rfl rfl rfl rfl rfl rfl ?_ | refine r_load hT rfl rfl rfl rfl rfl rfl rfl rfl rfl ?_)))
            refine r_shr rfl rfl rfl rfl rfl rfl rfl rfl (by rw [wr_eq]; show 0 ≤ (IntKind.u64).wrap _; rw [IntKind.wrap_u64]; omega) rfl ?_
            (repeat (first | refine r_end ?_ | (refine r_op ?_; refine r_pure hT rfl rfl rfl rfl rfl rfl ?_)))
            refine gi_cond rfl (fun c5 => ?_) (fun c5 => ?_)
            · (repeat (first | refine r_end ?_ | (refine r_op ?_; refine r_pure hT rfl rfl rfl rfl rfl rfl ?_) | refine gi_plain ?_ | refine gi_exit rfl ?_))
              refine next2 (r + 1, t, gs, rt) _ _ _ ⟨by simp only; omega, by simp only; omega, hG.mono (by simp only; omega), by simp only; omega, hM.skip (by omega)⟩ (by simp only; omega) ⟨?_, rfl, rfl, rfl, rfl, rfl, rfl, rfl, rfl, trivial⟩ ⟨rfl, trivial⟩ ⟨rfl, rfl, trivial⟩
              show some (I (wr .i64 ((r : Int) + 1))) = _
              rw [wr_i64 (by omega) (by omega)]
              simp
            (repeat (first | (refine r_op ?_; first | refine r_pure hT rfl rfl rfl rfl rfl rfl ?_ | refine r_load hT rfl rfl rfl rfl rfl rfl rfl rfl rfl ?_ | refine r_lit hT rfl rfl rfl rfl rfl rfl rfl rfl rfl rfl rfl rfl rfl ?_) | refine gi_seq ?_ | refine gi_plain ?_ | refine gi_skip ?_))
            refine r_append hT rfl rfl rfl rfl rfl rfl rfl rfl rfl rfl rfl rfl rfl rfl rfl rfl rfl (by simp only [List.length_cons, List.length_nil, List.length_map, maxLen]; exact ⟨by omega, by show _ * 8 ≤ _; omega⟩) ?_
            (repeat (first | refine r_end ?_ | (refine r_op ?_; first | refine r_pure hT rfl rfl rfl rfl rfl rfl ?_ | refine r_store hT rfl rfl rfl rfl rfl rfl rfl rfl rfl rfl ?_) | refine gi_seq ?_))
            refine gi_pick [0] [0, 1] rfl rfl rfl rfl rfl ?_
            refine gi_eqS [eO (gs ++ ns), eN (rt ++ [wr .i64 ((r : Int) + 1)])] (by rw [eN, List.map_append]; rfl) ?_
            obtain ⟨xr, hxr⟩ : ∃ x, gs[r]? = some x := ⟨_, List.getElem?_eq_getElem (by omega)⟩
            have hlr := (hG.el r xr hxr).2.2
            have hcr : 1 ≤ wr .i64 (1 + rm (wr .i64 ((i2 : Int) + r)) 4) ∧ wr .i64 (1 + rm (wr .i64 ((i2 : Int) + r)) 4) ≤ 4 := by rw [wr_i64 (n := (i2 : Int) + r) (by omega) (by omega)]; exact cost_rm1 4 (by omega) (by omega) (by omega)
            have hz1 : wr .i64 ((r : Int) + 1) = (r : Int) + 1 := wr_i64 (by omega) (by omega)
            (repeat (first | (refine r_op ?_; refine r_pure hT rfl rfl rfl rfl rfl rfl ?_) | refine gi_plain ?_))
            refine r_case (d := 172) rfl (fun c2 => ?_) (fun c2 => ?_)
            · (repeat (first | refine r_end ?_ | (refine r_op ?_; first | refine r_pure hT rfl rfl rfl rfl rfl rfl ?_ | refine r_off rfl rfl rfl rfl rfl ?_) | refine gi_plain ?_ | (refine gi_cnd ?_; first | refine gi_true rfl ?_ | refine gi_false rfl ?_)))
              refine r_idxS hT rfl rfl rfl rfl rfl rfl rfl rfl rfl rfl rfl rfl rfl (by omega) (by show r < ((gs ++ ns).map Ls.rowO).length; simp only [List.length_map, List.length_set, List.length_append]; omega) ?_
              (repeat ((refine r_op ?_; refine r_pure hT rfl rfl rfl rfl rfl rfl ?_)))
              refine r_takeS (row := xr.rowO) hT rfl rfl rfl rfl rfl rfl rfl rfl (by show ((gs ++ ns).map Ls.rowO)[r]? = _; rw [List.getElem?_map, List.getElem?_append_left (by omega), hxr]; rfl) rfl rfl rfl rfl ?_
              (repeat ((refine r_op ?_; refine r_pure hT rfl rfl rfl rfl rfl rfl ?_)))
              refine r_shl (n := id) rfl rfl rfl rfl rfl rfl rfl rfl (by decide) hidw ?_
              (repeat ((refine r_op ?_; refine r_pure hT rfl rfl rfl rfl rfl rfl ?_)))
              refine r_shl (n := id) rfl rfl rfl rfl rfl rfl rfl rfl (by decide) hidw ?_
              (repeat ((refine r_op ?_; first | refine r_pure hT rfl rfl rfl rfl rfl rfl ?_ | refine r_lit hT rfl rfl rfl rfl rfl rfl rfl rfl rfl rfl rfl rfl rfl ?_)))
              refine r_append hT rfl rfl rfl rfl rfl rfl rfl rfl rfl rfl rfl rfl rfl rfl rfl rfl rfl (by simp only [List.length_cons, List.length_nil, List.length_map, maxLen]; exact ⟨by omega, by show _ * 32 ≤ _; omega⟩) ?_
              skip
              refine r_idxS hT rfl rfl rfl rfl rfl rfl rfl rfl rfl rfl rfl rfl rfl (by omega) (by show r < (((gs ++ ns).map Ls.rowO).set r (xr.rowO.set 8 .any)).length; simp only [List.length_map, List.length_set, List.length_append]; omega) ?_
              (repeat ((refine r_op ?_; refine r_pure hT rfl rfl rfl rfl rfl rfl ?_)))
              refine r_giveS (row := xr.rowO.set 8 .any) hT rfl rfl rfl rfl rfl rfl rfl rfl rfl rfl rfl rfl rfl rfl (List.getElem?_set_self (by simp only [List.length_map, List.length_append]; omega)) rfl ?_
              refine r_eqS _ (eO_link2 (a := r) (gs := gs) (ns := ns) (by omega) xr ⟨_, _, _, _⟩ _) ?_
              have hG3 := hG.add hxr (lk2 (i := id) (d := wr .i64 (wr .i64 (id + 1) + r)) (c := wr .i64 (1 + rm (wr .i64 ((i2 : Int) + r)) 4)) ⟨by omega, by omega⟩)
              have hM3 := hM.full (by omega) hxr (q := ⟨2, id, wr .i64 (wr .i64 (id + 1) + r), wr .i64 (1 + rm (wr .i64 ((i2 : Int) + r)) 4)⟩) ⟨rfl, by simp only; omega, by simp only; rw [wr_i64 (n := id + 1) (by omega) (by omega), wr_i64 (by omega) (by omega)], hcr.1, hcr.2⟩ hz1
              generalize gs.set r (xr.add _) = g3 at hG3 hM3 ⊢
              (repeat (first | refine r_end ?_ | (refine r_op ?_; refine r_pure hT rfl rfl rfl rfl rfl rfl ?_) | refine gi_plain ?_ | refine gi_inBlock ?_))
              refine next2 (r + 1, t + 1, g3, rt ++ [wr .i64 ((r : Int) + 1)]) _ _ _ ⟨by simp only; omega, by simp only; omega, hG3.mono (by simp only; omega), by simp only [List.length_append, List.length_singleton]; omega, hM3⟩ (by simp only; omega) ⟨?_, ?_, rfl, rfl, rfl, rfl, rfl, rfl, rfl, trivial⟩ ⟨rfl, trivial⟩ ⟨rfl, rfl, trivial⟩
              · show some (I (wr .i64 ((r : Int) + 1))) = _
                rw [wr_i64 (by omega) (by omega)]
                simp
              · show some (I (wr .i64 ((t : Int) + 1))) = _
                rw [wr_i64 (by omega) (by omega)]
                simp
            · rw [leB_eq] at c2
              have c2 := of_decide_eq_false c2
              rw [List.length_map] at c2
              simp only at c2
              obtain ⟨o, ho⟩ : ∃ o, one[t]? = some o := ⟨_, List.getElem?_eq_getElem (by omega)⟩
              (repeat ((refine r_op ?_; refine r_pure hT rfl rfl rfl rfl rfl rfl ?_)))
              refine r_idx (row := [.v (.bool o)]) hT rfl rfl rfl rfl rfl rfl rfl rfl rfl rfl rfl rfl (by omega) (by simp [ho]) ?_
              (repeat (first | refine r_end ?_ | (refine r_op ?_; first | refine r_pure hT rfl rfl rfl rfl rfl rfl ?_ | refine r_load hT rfl rfl rfl rfl rfl rfl rfl rfl rfl ?_)))
              refine gi_cond rfl (fun c3 => ?_) (fun c3 => ?_)
              · (repeat (first | (refine r_op ?_; refine r_pure hT rfl rfl rfl rfl rfl rfl ?_) | refine gi_plain ?_))
                refine r_idxS hT rfl rfl rfl rfl rfl rfl rfl rfl rfl rfl rfl rfl rfl (by omega) (by show r < ((gs ++ ns).map Ls.rowO).length; simp only [List.length_map, List.length_set, List.length_append]; omega) ?_
                (repeat ((refine r_op ?_; refine r_pure hT rfl rfl rfl rfl rfl rfl ?_)))
                refine r_takeS (row := xr.rowO) hT rfl rfl rfl rfl rfl rfl rfl rfl (by show ((gs ++ ns).map Ls.rowO)[r]? = _; rw [List.getElem?_map, List.getElem?_append_left (by omega), hxr]; rfl) rfl rfl rfl rfl ?_
                (repeat ((refine r_op ?_; refine r_pure hT rfl rfl rfl rfl rfl rfl ?_)))
                refine r_shl (n := id) rfl rfl rfl rfl rfl rfl rfl rfl (by decide) hidw ?_
                (repeat ((refine r_op ?_; refine r_pure hT rfl rfl rfl rfl rfl rfl ?_)))
                refine r_shl (n := id) rfl rfl rfl rfl rfl rfl rfl rfl (by decide) hidw ?_
                (repeat ((refine r_op ?_; first | refine r_pure hT rfl rfl rfl rfl rfl rfl ?_ | refine r_lit hT rfl rfl rfl rfl rfl rfl rfl rfl rfl rfl rfl rfl rfl ?_)))
                refine r_append hT rfl rfl rfl rfl rfl rfl rfl rfl rfl rfl rfl rfl rfl rfl rfl rfl rfl (by simp only [List.length_cons, List.length_nil, List.length_map, maxLen]; exact ⟨by omega, by show _ * 32 ≤ _; omega⟩) ?_
                skip
                refine r_idxS hT rfl rfl rfl rfl rfl rfl rfl rfl rfl rfl rfl rfl rfl (by omega) (by show r < (((gs ++ ns).map Ls.rowO).set r (xr.rowO.set 8 .any)).length; simp only [List.length_map, List.length_set, List.length_append]; omega) ?_
                (repeat ((refine r_op ?_; refine r_pure hT rfl rfl rfl rfl rfl rfl ?_)))
                refine r_giveS (row := xr.rowO.set 8 .any) hT rfl rfl rfl rfl rfl rfl rfl rfl rfl rfl rfl rfl rfl rfl (List.getElem?_set_self (by simp only [List.length_map, List.length_append]; omega)) rfl ?_
                refine r_eqS _ (eO_link2 (a := r) (gs := gs) (ns := ns) (by omega) xr ⟨_, _, _, _⟩ _) ?_
                have hG3 := hG.add hxr (lk2 (i := id) (d := wr .i64 (wr .i64 (id + 1) + r)) (c := wr .i64 (1 + rm (wr .i64 ((i2 : Int) + r)) 4)) ⟨by omega, by omega⟩)
                have hM3 := hM.full (by omega) hxr (q := ⟨2, id, wr .i64 (wr .i64 (id + 1) + r), wr .i64 (1 + rm (wr .i64 ((i2 : Int) + r)) 4)⟩) ⟨rfl, by simp only; omega, by simp only; rw [wr_i64 (n := id + 1) (by omega) (by omega), wr_i64 (by omega) (by omega)], hcr.1, hcr.2⟩ hz1
                generalize gs.set r (xr.add _) = g3 at hG3 hM3 ⊢
                (repeat (first | refine r_end ?_ | (refine r_op ?_; refine r_pure hT rfl rfl rfl rfl rfl rfl ?_) | refine gi_plain ?_ | refine gi_inBlock ?_))
                refine next2 (r + 1, t + 1, g3, rt ++ [wr .i64 ((r : Int) + 1)]) _ _ _ ⟨by simp only; omega, by simp only; omega, hG3.mono (by simp only; omega), by simp only [List.length_append, List.length_singleton]; omega, hM3⟩ (by simp only; omega) ⟨?_, ?_, rfl, rfl, rfl, rfl, rfl, rfl, rfl, trivial⟩ ⟨rfl, trivial⟩ ⟨rfl, rfl, trivial⟩
                · show some (I (wr .i64 ((r : Int) + 1))) = _
                  rw [wr_i64 (by omega) (by omega)]
                  simp
                · show some (I (wr .i64 ((t : Int) + 1))) = _
                  rw [wr_i64 (by omega) (by omega)]
                  simp
              · (repeat (first | refine r_end ?_ | (refine r_op ?_; refine r_pure hT rfl rfl rfl rfl rfl rfl ?_) | refine gi_plain ?_ | refine gi_skip ?_ | refine gi_inBlock ?_))
                refine next2 (r + 1, t + 1, gs, rt ++ [wr .i64 ((r : Int) + 1)]) _ _ _ ⟨by simp only; omega, by simp only; omega, hG.mono (by simp only; omega), by simp only [List.length_append, List.length_singleton]; omega, hM.half (by omega) (ne_nil ho) hz1⟩ (by simp only; omega) ⟨?_, ?_, rfl, rfl, rfl, rfl, rfl, rfl, rfl, trivial⟩ ⟨rfl, trivial⟩ ⟨rfl, rfl, trivial⟩
                · show some (I (wr .i64 ((r : Int) + 1))) = _
                  rw [wr_i64 (by omega) (by omega)]
                  simp
                · show some (I (wr .i64 ((t : Int) + 1))) = _
                  rw [wr_i64 (by omega) (by omega)]
                  simp
          · (repeat (refine gi_exit rfl ?_))
            refine gi_freeze 1 rfl rfl ?_
            (repeat (first | (refine r_op ?_; first | refine r_pure hT rfl rfl rfl rfl rfl rfl ?_ | refine r_load hT rfl rfl rfl rfl rfl rfl rfl rfl rfl ?_ | refine r_lit hT rfl rfl rfl rfl rfl rfl rfl rfl rfl rfl rfl rfl rfl ?_) | refine gi_plain ?_))
            refine r_append hT rfl rfl rfl rfl rfl rfl rfl rfl rfl rfl rfl rfl rfl rfl rfl rfl rfl (by simp only [List.length_cons, List.length_nil, List.length_map, List.length_append, maxLen]; exact ⟨by omega, by show _ * 144 ≤ _; omega⟩) ?_
            (repeat (first | refine r_end ?_ | (refine r_op ?_; refine r_pure hT rfl rfl rfl rfl rfl rfl ?_) | refine gi_plain ?_ | refine gi_inBlock ?_))
            refine gi_rows 0 (se' := seO ((gs ++ ns) ++ [⟨0, 2, id, wr .i64 (1 + a), 0, 0, 0, 0, [], 24, rt, []⟩])) rfl ⟨rfl, rfl, by simp⟩ (by rw [eO_snoc (gs ++ ns) _ _ rfl]; exact rows_last (raw_le (le_same _))) ?_
            have hrj : r = j := by omega
            subst hrj
            have hMo := hM.out (id := id) (adv := wr .i64 (1 + a)) (by omega) (by rw [wr_i64 (by omega) (by omega)]; omega)
            refine next (i2 + 1, t, gs, ns ++ [⟨0, 2, id, wr .i64 (1 + a), 0, 0, 0, 0, [], 24, rt, []⟩]) _ _ _ ⟨by simp only; omega, by simp only; omega, hG.mono (by simp only; omega), fun y hy => ?_, by simp only [List.length_append, List.length_singleton]; omega, hMo⟩ (by simp only; omega) ⟨?_, rfl, rfl, rfl, rfl, rfl, rfl, trivial⟩ trivial ⟨by rw [← List.append_assoc], trivial⟩
            · rcases List.mem_append.1 hy with hy | hy
              · exact hN y hy
              · rw [List.mem_singleton.1 hy]
                exact ⟨rfl, by simp only; omega, by simp only; omega, by simp only; omega, by simp only; omega⟩
            · show some (I (wr .i64 ((i2 : Int) + 1))) = _
              rw [wr_i64 (by omega) (by omega)]
              simp
        · (repeat (first | refine gi_seq ?_ | refine gi_exit rfl ?_))
          exact fin () _ _ _ trivial ⟨rfl, rfl, rfl, rfl, rfl, rfl, trivial⟩ trivial ⟨rfl, trivial⟩
      · (repeat (first | refine r_end ?_ | (refine r_op ?_; first | refine r_pure hT rfl rfl rfl rfl rfl rfl ?_ | refine r_off rfl rfl rfl rfl rfl ?_) | refine gi_seq ?_ | refine gi_exit rfl ?_ | (refine gi_cnd ?_; first | refine gi_true rfl ?_ | refine gi_false rfl ?_)))
        exact fin () _ _ _ trivial ⟨rfl, rfl, rfl, rfl, rfl, rfl, trivial⟩ trivial ⟨rfl, trivial⟩
    case after =>
      intro _ _
      (repeat (first | refine r_end ?_ | (refine r_op ?_; refine r_pure hT rfl rfl rfl rfl rfl rfl ?_) | refine gi_plain ?_ | refine gi_block ?_))
      refine gi_loop (σ := Nat × List Ls) (fun s => [(20, I s.1), (9, I j), (10, .sl 0)]) (fun _ => []) (fun s => [eO (s.2 ++ ns)]) (fun s => s.1 ≤ j ∧ Gs j (110 + s.1) s.2 ∧ Gf j ps.length qs.length one.isEmpty s.1 s.2 ns) (fun s => j - s.1) (0, gs) ⟨Nat.zero_le _, hG.mono (by simp only; omega), .start hM⟩ ⟨rfl, rfl, rfl, trivial⟩ trivial ⟨rfl, trivial⟩ (fun _ => rfl) (fun s hs next => ?_)
      obtain ⟨r, gs⟩ := s
      obtain ⟨hr, hG, hM⟩ := hs
      simp only at hr hG hM
      have hgl := hG.len
      (repeat (first | refine r_end ?_ | (refine r_op ?_; refine r_pure hT rfl rfl rfl rfl rfl rfl ?_) | refine gi_seq ?_ | refine gi_plain ?_))
      refine gi_lt rfl (fun h5 => ?_) (fun h5 => ?_)
      · obtain ⟨xr, hxr⟩ : ∃ x, gs[r]? = some x := ⟨_, List.getElem?_eq_getElem (by omega)⟩
        have hlr := (hG.el r xr hxr).2.2
        have hcr : 1 ≤ wr .i64 (1 + rm (r : Int) 3) ∧ wr .i64 (1 + rm (r : Int) 3) ≤ 3 := cost_rm1 3 (by omega) (by omega) (by omega)
        obtain ⟨id, hid⟩ : ∃ id : Int, id = (201 + (r : Int)) * 256 := ⟨_, rfl⟩
        have hidw : wr .i64 (wr .i64 (201 + (r : Int)) * 2 ^ (min (8 : Int).toNat (IntKind.bits .i64))) = id := by
          rw [wr_i64 (n := 201 + (r : Int)) (by omega) (by omega), show (2 : Int) ^ (min (8 : Int).toNat (IntKind.bits .i64)) = 256 from rfl, wr_i64 (by omega) (by omega), hid]
        (repeat (first | (refine r_op ?_; refine r_pure hT rfl rfl rfl rfl rfl rfl ?_) | refine gi_seq ?_ | refine gi_plain ?_ | refine gi_skip ?_ | refine gi_block ?_))
        refine r_idxS hT rfl rfl rfl rfl rfl rfl rfl rfl rfl rfl rfl rfl rfl (by omega) (by show r < ((gs ++ ns).map Ls.rowO).length; simp only [List.length_map, List.length_set, List.length_append]; omega) ?_
        (repeat ((refine r_op ?_; refine r_pure hT rfl rfl rfl rfl rfl rfl ?_)))
        refine r_takeS (row := xr.rowO) hT rfl rfl rfl rfl rfl rfl rfl rfl (by show ((gs ++ ns).map Ls.rowO)[r]? = _; rw [List.getElem?_map, List.getElem?_append_left (by omega), hxr]; rfl) rfl rfl rfl rfl ?_
        (repeat ((refine r_op ?_; refine r_pure hT rfl rfl rfl rfl rfl rfl ?_)))
        refine r_shl (n := id) rfl rfl rfl rfl rfl rfl rfl rfl (by decide) hidw ?_
        (repeat ((refine r_op ?_; first | refine r_pure hT rfl rfl rfl rfl rfl rfl ?_ | refine r_lit hT rfl rfl rfl rfl rfl rfl rfl rfl rfl rfl rfl rfl rfl ?_)))
        refine r_append hT rfl rfl rfl rfl rfl rfl rfl rfl rfl rfl rfl rfl rfl rfl rfl rfl rfl (by simp only [List.length_cons, List.length_nil, List.length_map, maxLen]; exact ⟨by omega, by show _ * 32 ≤ _; omega⟩) ?_
        skip
        refine r_idxS hT rfl rfl rfl rfl rfl rfl rfl rfl rfl rfl rfl rfl rfl (by omega) (by show r < (((gs ++ ns).map Ls.rowO).set r (xr.rowO.set 8 .any)).length; simp only [List.length_map, List.length_set, List.length_append]; omega) ?_
        (repeat ((refine r_op ?_; refine r_pure hT rfl rfl rfl rfl rfl rfl ?_)))
        refine r_giveS (row := xr.rowO.set 8 .any) hT rfl rfl rfl rfl rfl rfl rfl rfl rfl rfl rfl rfl rfl rfl (List.getElem?_set_self (by simp only [List.length_map, List.length_append]; omega)) rfl ?_
        refine r_eqS _ (eO_link2 (a := r) (gs := gs) (ns := ns) (by omega) xr ⟨_, _, _, _⟩ _) ?_
        have hG3 := hG.add hxr (q := ⟨3, id, 4294967040, wr .i64 (1 + rm (r : Int) 3)⟩) ⟨by simp only; omega, by simp only; omega, fun _ => ⟨rfl, by simp only; omega, by simp only; omega, by simp only; omega⟩⟩
        have hM3 := hM.stub (by omega) hxr (q := ⟨3, id, 4294967040, wr .i64 (1 + rm (r : Int) 3)⟩) ⟨rfl, by simp only; omega, rfl, hcr.1, hcr.2⟩
        generalize gs.set r (xr.add _) = g3 at hG3 hM3 ⊢
        (repeat (first | refine r_end ?_ | (refine r_op ?_; refine r_pure hT rfl rfl rfl rfl rfl rfl ?_) | refine gi_plain ?_ | refine gi_inBlock ?_))
        refine next (r + 1, g3) _ _ _ ⟨by simp only; omega, hG3.mono (by simp only; omega), hM3⟩ (by simp only; omega) ⟨?_, rfl, rfl, trivial⟩ trivial ⟨rfl, trivial⟩
        show some (I (wr .i64 ((r : Int) + 1))) = _
        rw [wr_i64 (by omega) (by omega)]
        simp
      · (repeat (first | refine r_end ?_ | (refine r_op ?_; refine r_pure hT rfl rfl rfl rfl rfl rfl ?_) | refine gi_seq ?_ | refine gi_plain ?_ | refine gi_exit rfl ?_))
        refine gi_retX hT Try.func28 rfl [] [0] rfl rfl rfl rfl rfl rfl rfl rfl ?_
        have hrj : r = j := by omega
        subst hrj
        exact ⟨gs ++ ns, ⟨r, gs, ns, hk, rfl, hG.mono (by omega), hN, by omega⟩, ⟨r, gs, ns, hk, rfl, hM⟩, rfl, rfl, rfl⟩
end Go.Proofs.Ytmocggibcniggaa.Kt
namespace Go.Proofs.Ytmocggibcniggaa.Kt
open Go Kw Go.Proofs
attribute [local irreducible] Kw.GI Kw.GR Kw.FnR Kw.FnX
set_option maxHeartbeats 16000000
set_option maxRecDepth 100000
/-! ### the example: one router, one stub -/
def lk0 : Lk := ⟨3, 51456, 4294967040, 1⟩
def l0 : List Ls := [⟨0, 1, 1, 1, 0, 0, 0, 0, [lk0], 0, [], []⟩]
def l00 : Ls := ⟨0, 1, 1, 1, 0, 0, 0, 0, [], 0, [], []⟩
theorem src0 : srcF 51461 (mapL l0) = ⟨⟨1, 1⟩, 51456, 24, true⟩ := by kernel_rfl
theorem Graph0 : FnX Try.prog 28 [u8 0, rs8 [], rs8 [], rsB []] [] [] (fun r H S => r = .sl 0 ∧ H = [] ∧ S = [eO l0]) := by
  refine fnX_intro (T := TT) (n := 235) Try.func28 rfl rfl rfl (fun w X Z Y B => ?_)
  (repeat (first | refine r_end ?_ | (refine r_op ?_; refine r_pure hT rfl rfl rfl rfl rfl rfl ?_) | refine gi_seq ?_ | refine gi_plain_ne 2 rfl ?_))
  refine gi_turn (d := 9) (y := I 1) rfl (by kernel_rfl) ?_
  (repeat (first | refine r_end ?_ | (refine r_op ?_; refine r_pure hT rfl rfl rfl rfl rfl rfl ?_) | refine gi_seq ?_ | refine gi_plain ?_ | refine gi_block ?_))
  refine gi_adopt (e := 51) (sz := 12) 10 rfl ?_
  refine gi_rows 0 (se' := seO []) rfl ⟨rfl, rfl, rfl⟩ rows_nest ?_
  refine gi_loop0 ?_
  (repeat (first | refine r_end ?_ | (refine r_op ?_; refine r_pure hT rfl rfl rfl rfl rfl rfl ?_) | refine gi_seq ?_ | refine gi_plain ?_))
  refine gi_known (d := 27) (b := true) rfl (by kernel_rfl) ?_
  (repeat (first | (refine r_op ?_; first | refine r_pure hT rfl rfl rfl rfl rfl rfl ?_ | refine r_lit hT rfl rfl rfl rfl rfl rfl rfl rfl rfl rfl rfl rfl rfl ?_) | refine gi_seq ?_ | refine gi_plain ?_ | refine gi_skip ?_ | refine gi_block ?_ | (refine gi_cnd ?_; first | refine gi_true rfl ?_ | refine gi_false rfl ?_)))
  refine r_append hT rfl rfl rfl rfl rfl rfl rfl rfl rfl rfl rfl rfl rfl rfl rfl rfl rfl (by simp only [List.length_cons, List.length_nil, List.length_map, maxLen]; exact ⟨by omega, by decide⟩) ?_
  (repeat (first | refine r_end ?_ | (refine r_op ?_; refine r_pure hT rfl rfl rfl rfl rfl rfl ?_) | refine gi_inBlock ?_))
  refine gi_rows 0 (se' := seO [l00]) rfl ⟨rfl, rfl, rfl⟩ (rows_last (L := []) (raw_le (le_fs 1))) ?_
  (repeat (first | refine r_end ?_ | (refine r_op ?_; refine r_pure hT rfl rfl rfl rfl rfl rfl ?_) | refine gi_plain ?_))
  refine gi_inLoop ?_
  (repeat (first | refine r_end ?_ | (refine r_op ?_; refine r_pure hT rfl rfl rfl rfl rfl rfl ?_) | refine gi_seq ?_ | refine gi_plain ?_))
  refine gi_known (d := 27) (b := false) rfl (by kernel_rfl) ?_
  (repeat (first | refine r_end ?_ | (refine r_op ?_; refine r_pure hT rfl rfl rfl rfl rfl rfl ?_) | refine gi_seq ?_ | refine gi_plain ?_ | refine gi_block ?_ | refine gi_exit rfl ?_ | (refine gi_cnd ?_; first | refine gi_true rfl ?_ | refine gi_false rfl ?_)))
  refine gi_loop0 ?_
  (repeat (first | (refine r_op ?_; refine r_pure hT rfl rfl rfl rfl rfl rfl ?_) | refine gi_seq ?_ | refine gi_plain ?_))
  refine r_known (d := 42) (b := false) rfl (by kernel_rfl) ?_
  (repeat (first | refine r_end ?_ | (refine r_op ?_; first | refine r_pure hT rfl rfl rfl rfl rfl rfl ?_ | refine r_off rfl rfl rfl rfl rfl ?_) | refine gi_seq ?_ | refine gi_plain ?_ | refine gi_block ?_ | refine gi_exit rfl ?_ | (refine gi_cnd ?_; first | refine gi_true rfl ?_ | refine gi_false rfl ?_)))
  refine gi_loop0 ?_
  (repeat (first | (refine r_op ?_; refine r_pure hT rfl rfl rfl rfl rfl rfl ?_) | refine gi_seq ?_ | refine gi_plain ?_))
  refine r_known (d := 128) (b := false) rfl (by kernel_rfl) ?_
  (repeat (first | refine r_end ?_ | (refine r_op ?_; first | refine r_pure hT rfl rfl rfl rfl rfl rfl ?_ | refine r_off rfl rfl rfl rfl rfl ?_) | refine gi_seq ?_ | refine gi_plain ?_ | refine gi_block ?_ | refine gi_exit rfl ?_ | (refine gi_cnd ?_; first | refine gi_true rfl ?_ | refine gi_false rfl ?_)))
  refine gi_loop0 ?_
  (repeat (first | refine r_end ?_ | (refine r_op ?_; refine r_pure hT rfl rfl rfl rfl rfl rfl ?_) | refine gi_seq ?_ | refine gi_plain ?_))
  refine gi_known (d := 213) (b := true) rfl (by kernel_rfl) ?_
  (repeat (first | (refine r_op ?_; refine r_pure hT rfl rfl rfl rfl rfl rfl ?_) | refine gi_seq ?_ | refine gi_plain ?_ | refine gi_skip ?_ | refine gi_block ?_ | (refine gi_cnd ?_; first | refine gi_true rfl ?_ | refine gi_false rfl ?_)))
  refine r_idxS hT rfl rfl rfl rfl rfl rfl rfl rfl rfl rfl rfl rfl rfl (by decide) (by decide) ?_
  (repeat ((refine r_op ?_; refine r_pure hT rfl rfl rfl rfl rfl rfl ?_)))
  refine r_takeS (row := l00.rowO) hT rfl rfl rfl rfl rfl rfl rfl rfl rfl rfl rfl rfl rfl ?_
  (repeat ((refine r_op ?_; refine r_pure hT rfl rfl rfl rfl rfl rfl ?_)))
  refine r_shl (n := 51456) rfl rfl rfl rfl rfl rfl rfl rfl (by decide) (by kernel_rfl) ?_
  (repeat ((refine r_op ?_; first | refine r_pure hT rfl rfl rfl rfl rfl rfl ?_ | refine r_lit hT rfl rfl rfl rfl rfl rfl rfl rfl rfl rfl rfl rfl rfl ?_)))
  refine r_append hT rfl rfl rfl rfl rfl rfl rfl rfl rfl rfl rfl rfl rfl rfl rfl rfl rfl (by simp only [List.length_cons, List.length_nil, List.length_map, maxLen, l00]; exact ⟨by omega, by decide⟩) ?_
  skip
  refine r_idxS hT rfl rfl rfl rfl rfl rfl rfl rfl rfl rfl rfl rfl rfl (by decide) (by show 0 < 1; decide) ?_
  (repeat ((refine r_op ?_; refine r_pure hT rfl rfl rfl rfl rfl rfl ?_)))
  refine r_giveS (row := l00.rowO.set 8 .any) hT rfl rfl rfl rfl rfl rfl rfl rfl rfl rfl rfl rfl rfl rfl rfl rfl ?_
  refine r_eqS _ (eO_link2 (a := 0) (gs := [l00]) (ns := []) (by decide) l00 ⟨_, _, _, _⟩ _) ?_
  (repeat (first | refine r_end ?_ | (refine r_op ?_; refine r_pure hT rfl rfl rfl rfl rfl rfl ?_) | refine gi_plain ?_ | refine gi_inBlock ?_))
  refine gi_inLoop ?_
  (repeat (first | refine r_end ?_ | (refine r_op ?_; refine r_pure hT rfl rfl rfl rfl rfl rfl ?_) | refine gi_seq ?_ | refine gi_plain ?_))
  refine gi_known (d := 213) (b := false) rfl (by kernel_rfl) ?_
  (repeat (first | refine r_end ?_ | (refine r_op ?_; refine r_pure hT rfl rfl rfl rfl rfl rfl ?_) | refine gi_seq ?_ | refine gi_plain ?_ | refine gi_exit rfl ?_ | (refine gi_cnd ?_; first | refine gi_true rfl ?_ | refine gi_false rfl ?_)))
  refine gi_retX hT Try.func28 rfl [] [0] rfl rfl rfl rfl rfl rfl rfl rfl ?_
  refine ⟨rfl, rfl, ?_⟩
  show [eO _] = [eO l0]
  kernel_rfl
abbrev R0 : AV → Hp → Sp → Prop := fun r H S => r = .sl 0 ∧ H = [] ∧ S = [eO l0]
theorem p0G : ∀ r H1 S1, R0 r H1 S1 → stA r = true ∧ StH H1 ∧ StS S1 := by
  rintro r H S ⟨rfl, rfl, rfl⟩
  refine ⟨rfl, StH.nil, fun e he s hs => ?_⟩
  rw [List.mem_singleton] at he
  subst he
  cases hs
  exact stOLL_O l0
theorem few0 : Few l0 := ⟨by decide, fun x hx => by rw [List.mem_singleton.1 hx]; decide, fun x hx => by rw [List.mem_singleton.1 hx]; decide⟩
theorem Graph0n : FnX Try.prog 28 [u8 0, nilA, nilA, nilA] [] [] R0 :=
  fnX_args Graph0 (fun _ _ _ h => by
    have a1 := CL_setx (x := nilA) (y := rs8 []) (j := 1) (fun u hu => C_nil_rs hu) rfl h
    have a2 := CL_setx (x := nilA) (y := rs8 []) (j := 2) (fun u hu => C_nil_rs hu) rfl a1
    exact CL_setx (x := nilA) (y := rsB []) (j := 3) (fun u hu => C_nil_rs hu) rfl a2)
abbrev RReach (t : List Nd) (m : Mp) (ms : List Vt) : AV → Hp → Sp → Prop := fun r H S => r = .sl 0 ∧ H = [] ∧ ∃ o, S = [eN o] ∧ Rch t m.wl ms o
theorem pRch {t : List Nd} {m : Mp} {ms : List Vt} : ∀ r H1 S1, RReach t m ms r H1 S1 → stA r = true ∧ StH H1 ∧ StS S1 := by
  rintro r H S ⟨rfl, rfl, o, rfl, _⟩
  refine ⟨rfl, StH.nil, fun e he s hs => ?_⟩
  rw [List.mem_singleton] at he
  subst he
  cases hs
  exact stLL_N o
theorem pSrc {s : Src} : ∀ r S1, (r = s.av ∧ S1 = []) → plainA r = true ∧ PlainS S1 := pA rfl
end Go.Proofs.Ytmocggibcniggaa.Kt
namespace Go.Proofs.Ytmocggibcniggaa.Kt
open Go Kw Go.Proofs
attribute [local irreducible] Kw.GI Kw.GR Kw.FnR Kw.FnX
set_option maxHeartbeats 16000000
set_option maxRecDepth 100000
/-! ### nobody wants all groups on Graph's maps -/
theorem wl_nil {l : List Ls} (h : ∀ x ∈ l, x.fl = 0) : (mapL l).wl = [] := by
  show (vertsL l).flatMap (wlF l) = []
  rw [List.flatMap_eq_nil_iff]
  intro v _
  have h0 : ((findL l v).getD zLs).fl = 0 := by
    cases hf : findL l v with
    | none => rfl
    | some x => exact h x (find_mem hf)
  have h1 : wl1 l v = [] := by
    unfold wl1
    rw [h0]
    have : notB (eqB (Go.bits .and .i64 0 8) 0) = false := by kernel_rfl
    rw [this]
  unfold wlF
  split
  · rfl
  · exact h1
theorem GrOk.fl {n : Int} {l : List Ls} (h : GrOk n l) : ∀ x ∈ l, x.fl = 0 := by
  obtain ⟨k, gs, ns, h1, rfl, h2, h3, h4⟩ := h.ex
  intro x hx
  rcases List.mem_append.1 hx with hx | hx
  · obtain ⟨j, hj⟩ := List.mem_iff_getElem?.1 hx
    rw [(h2.el j x hj).1]
  · rw [(h3 x hx).1]
/-! ### laws of what Reach answers -/
theorem isW_nil (n : Nd) : isW [] n = false := by unfold isW; rw [List.any_nil, Bool.and_false]
/-- Who is not one, and is some nets away, is at one at the least. -/
theorem Rch.one {t : List Nd} {ms : List Vt} {o : List Int} (h : Rch t [] ms o) : ∀ (j k : Nat) (n : Nd) (x : Int), t.length - k ≤ j → t[k]? = some n → o[k]? = some x → 0 ≤ x → 1 ≤ x
  | 0, k, n, x, hj, hn, _, _ => by have := (List.getElem?_eq_some_iff.1 hn).1; omega
  | j + 1, k, n, x, hj, hn, hx, h0 => by
    have hv := h.at_ k n x hn hx
    cases hm : isMb ms n with
    | true => rw [hv.me (isW_nil n) hm]; omega
    | false =>
      obtain ⟨k', m, y, hk, hm', _, hy, hy0, rfl⟩ := hv.or (isW_nil n) hm h0
      have := Rch.one h j k' m y (by omega) hm' hy hy0
      have := cK_b n m
      have := cP_b n
      omega
/-- The statement's step. -/
def stS (n m : Nd) : Int := if n.v.k = 1 ∧ m.v.k = 2 then 0 else 1
theorem stS_eq {n m : Nd} (h : m.v.k = 1 ∨ m.v.k = 2) : cK n m + cP n = stS n m := by
  unfold cK cP stS
  by_cases h1 : n.v.k = 1
  · rcases h with h | h
    · rw [if_pos ⟨h, h1⟩, if_pos h1, if_neg (fun hh => by have := hh.2; omega)]; rfl
    · rw [if_neg (fun hh => by have := hh.1; omega), if_pos h1, if_pos ⟨h1, h⟩]; rfl
  · rw [if_neg (fun hh => h1 hh.2), if_neg h1, if_neg (fun hh => h1 hh.1)]; rfl
theorem stS_b (n m : Nd) : 0 ≤ stS n m ∧ stS n m ≤ 1 := by unfold stS; split <;> omega
theorem Rch.kid {t : List Nd} {ms : List Vt} {o : List Int} (h : Rch t [] ms o) {i k : Nat} {n m : Nd} {x y : Int} (hn : t[i]? = some n) (hx : o[i]? = some x) (hik : i < k) (hm : t[k]? = some m) (hp : m.p = i) (hy : o[k]? = some y) (hk : m.v.k = 1 ∨ m.v.k = 2) (hy0 : 0 ≤ y) : 0 ≤ x ∧ x ≤ y + stS n m := by
  have hv := h.at_ i n x hn hx
  have h1 := h.one t.length k m y (by omega) hm hy hy0
  have hs := stS_b n m
  cases hmm : isMb ms n with
  | true => rw [hv.me (isW_nil n) hmm]; omega
  | false =>
    have := hv.le (isW_nil n) hmm k m y hik hm hp hy hy0
    rw [stS_eq hk] at this
    exact this
end Go.Proofs.Ytmocggibcniggaa.Kt
namespace Go.Proofs.Ytmocggibcniggaa.Kt
open Go Kw Go.Proofs
attribute [local irreducible] Kw.GI Kw.GR Kw.FnR Kw.FnX
set_option maxHeartbeats 8000000
set_option maxRecDepth 100000
/-! ### the reference's addresses -/
theorem rRight_ok (a : Int) : FnR Try.prog 59 [I a] (RB (okA a)) := by
  refine fnR_intro (T := TT) (n := 9) Try.func59 rfl rfl rfl (fun w Z => ?_)
  (repeat (first | refine r_end ?_ | (refine r_op ?_; refine r_pure hT rfl rfl rfl rfl rfl rfl ?_) | refine gi_seq ?_ | refine gi_plain ?_))
  refine r_case (d := 5) rfl (fun h => ?_) (fun h => ?_)
  · (repeat (first | refine r_end ?_ | (refine r_op ?_; refine r_pure hT rfl rfl rfl rfl rfl rfl ?_)))
    refine gi_retW hT Try.func59 rfl rfl [] rfl rfl rfl rfl ?_
    exact ⟨by unfold okA; rw [h]; rfl, rfl⟩
  · (repeat (first | refine r_end ?_ | (refine r_op ?_; first | refine r_pure hT rfl rfl rfl rfl rfl rfl ?_ | refine r_off rfl rfl rfl rfl rfl ?_)))
    refine gi_retW hT Try.func59 rfl rfl [] rfl rfl rfl rfl ?_
    exact ⟨by unfold okA; rw [h]; rfl, rfl⟩
def inR (a p b : Int) : Bool := okA a && (okA p && (leB 0 b && (leB b 32 && eqB (netF a b) (netF p b))))
theorem rIn_ok (a p b : Int) : FnR Try.prog 26 [I a, I p, I b] (RB (inR a p b)) := by
  have done : ∀ {x : Bool}, x = inR a p b → Bo x = Bo (inR a p b) := fun h => by rw [h]
  refine fnR_intro (T := TT) (n := 30) Try.func26 rfl rfl rfl (fun w Z => ?_)
  (repeat (first | refine r_end ?_ | (refine r_op ?_; refine r_pure hT rfl rfl rfl rfl rfl rfl ?_) | refine gi_seq ?_ | refine gi_plain ?_))
  refine r_call (rRight_ok a) rfl rfl rfl rfl rfl rfl rfl rfl Try.func59 rfl rfl rfl pB ?_
  rintro r S1 ⟨rfl, rfl⟩
  (repeat ((refine r_op ?_; refine r_pure hT rfl rfl rfl rfl rfl rfl ?_)))
  refine r_case (d := 9) rfl (fun h1 => ?_) (fun h1 => ?_)
  · (repeat ((refine r_op ?_; refine r_pure hT rfl rfl rfl rfl rfl rfl ?_)))
    refine r_call (rRight_ok p) rfl rfl rfl rfl rfl rfl rfl rfl Try.func59 rfl rfl rfl pB ?_
    rintro r S1 ⟨rfl, rfl⟩
    (repeat ((refine r_op ?_; refine r_pure hT rfl rfl rfl rfl rfl rfl ?_)))
    refine r_case (d := 13) rfl (fun h2 => ?_) (fun h2 => ?_)
    · (repeat ((refine r_op ?_; refine r_pure hT rfl rfl rfl rfl rfl rfl ?_)))
      refine r_case (d := 17) rfl (fun h3 => ?_) (fun h3 => ?_)
      · (repeat ((refine r_op ?_; refine r_pure hT rfl rfl rfl rfl rfl rfl ?_)))
        refine r_case (d := 21) rfl (fun h4 => ?_) (fun h4 => ?_)
        · (repeat ((refine r_op ?_; refine r_pure hT rfl rfl rfl rfl rfl rfl ?_)))
          refine r_call (Net_ok a b) rfl rfl rfl rfl rfl rfl rfl rfl Try.func27 rfl rfl rfl pI ?_
          rintro r S1 ⟨rfl, rfl⟩
          (repeat ((refine r_op ?_; refine r_pure hT rfl rfl rfl rfl rfl rfl ?_)))
          refine r_call (Net_ok p b) rfl rfl rfl rfl rfl rfl rfl rfl Try.func27 rfl rfl rfl pI ?_
          rintro r S1 ⟨rfl, rfl⟩
          (repeat (first | refine r_end ?_ | (refine r_op ?_; refine r_pure hT rfl rfl rfl rfl rfl rfl ?_)))
          refine gi_retW hT Try.func26 rfl rfl [] rfl rfl rfl rfl ?_
          exact ⟨by unfold inR; rw [h1, h2, h3, h4]; rfl, rfl⟩
        · (repeat (first | refine r_end ?_ | (refine r_op ?_; first | refine r_pure hT rfl rfl rfl rfl rfl rfl ?_ | refine r_off rfl rfl rfl rfl rfl ?_)))
          refine gi_retW hT Try.func26 rfl rfl [] rfl rfl rfl rfl ?_
          exact ⟨by unfold inR; rw [h1, h2, h3, h4]; rfl, rfl⟩
      · (repeat (first | refine r_end ?_ | (refine r_op ?_; first | refine r_pure hT rfl rfl rfl rfl rfl rfl ?_ | refine r_off rfl rfl rfl rfl rfl ?_)))
        refine gi_retW hT Try.func26 rfl rfl [] rfl rfl rfl rfl ?_
        exact ⟨by unfold inR; rw [h1, h2, h3]; rfl, rfl⟩
    · (repeat (first | refine r_end ?_ | (refine r_op ?_; first | refine r_pure hT rfl rfl rfl rfl rfl rfl ?_ | refine r_off rfl rfl rfl rfl rfl ?_)))
      refine gi_retW hT Try.func26 rfl rfl [] rfl rfl rfl rfl ?_
      exact ⟨by unfold inR; rw [h1, h2]; rfl, rfl⟩
  · (repeat (first | refine r_end ?_ | (refine r_op ?_; first | refine r_pure hT rfl rfl rfl rfl rfl rfl ?_ | refine r_off rfl rfl rfl rfl rfl ?_)))
    refine gi_retW hT Try.func26 rfl rfl [] rfl rfl rfl rfl ?_
    exact ⟨by unfold inR; rw [h1]; rfl, rfl⟩

def xSn (a : Int) (st : Src) (s : Sn) : Src := if inR a s.p s.b = true ∧ st.b < s.b then ⟨s.v, s.p, s.b, true⟩ else st
def xSb (a : Int) (st : Src) (s : Sb) : Src := if inR a s.p s.b = true ∧ st.b < s.b then ⟨⟨1, s.r⟩, s.p, s.b, true⟩ else st
def z1 : Src := ⟨⟨0, 0⟩, 0, -1, false⟩
def xrcF (a : Int) (m : Mp) : Src := m.sb.foldl (xSb a) (m.sn.foldl (xSn a) z1)
/-- What is told of it. -/
def Src.told (s : Src) : Src := if s.b < 0 then z0 else ⟨s.v, s.p, s.b, true⟩
theorem rSource_ok (m : Mp) (a : Int) (h1 : m.sn.length < 1000000) (h2 : m.sb.length < 100000000) : FnR Try.prog 17 [avMf m, I a] (fun r S => r = (xrcF a m).told.av ∧ S = []) := by
  refine fnR_intro (T := TT) (n := 83) Try.func17 rfl rfl rfl (fun w Z => ?_)
  (repeat (first | refine r_end ?_ | (refine r_op ?_; first | refine r_pure hT rfl rfl rfl rfl rfl rfl ?_ | refine r_box rfl rfl rfl rfl rfl rfl rfl rfl rfl ?_ | refine r_store hT rfl rfl rfl rfl rfl rfl rfl rfl rfl rfl ?_ | refine r_alloc hT rfl rfl rfl rfl rfl rfl rfl rfl rfl ?_) | refine gi_seq ?_ | refine gi_plain ?_ | refine gi_block ?_))
  refine gi_loop (σ := Nat × Src) (fun s => [(11, I (s.1 : Int)), (2, .box 0 0), (4, .box 1 0), (8, .box 2 0), (1, I a), (9, I s.2.p), (10, I s.2.b)]) (fun s => [hMf m, hV ⟨0, 0⟩, hV s.2.v]) (fun _ => []) (fun s => s.1 ≤ m.sn.length ∧ s.2 = (m.sn.take s.1).foldl (xSn a) z1) (fun s => m.sn.length - s.1) (0, z1) ⟨Nat.zero_le _, rfl⟩ ⟨rfl, rfl, rfl, rfl, rfl, rfl, rfl, trivial⟩ ⟨rfl, rfl, rfl, trivial⟩ trivial (fun _ => rfl) (fun s hs next => ?_)
  obtain ⟨i, st⟩ := s
  obtain ⟨hi, hst⟩ := hs
  simp only at hi hst
  (repeat (first | refine r_end ?_ | (refine r_op ?_; first | refine r_pure hT rfl rfl rfl rfl rfl rfl ?_ | refine r_load hT rfl rfl rfl rfl rfl rfl rfl rfl rfl ?_) | refine gi_seq ?_ | refine gi_plain ?_))
  refine gi_lt (p := (i : Int)) (q := ((m.sn.map Sn.row).length : Int)) rfl (fun h3 => ?_) (fun h3 => ?_)
  · rw [List.length_map] at h3
    obtain ⟨x, hx⟩ : ∃ x, m.sn[i]? = some x := ⟨_, List.getElem?_eq_getElem (by omega)⟩
    have go : ∀ st', st' = xSn a st x → ∀ F1 H1 S1, SubF [(11, I (wr .i64 ((i : Int) + 1))), (2, .box 0 0), (4, .box 1 0), (8, .box 2 0), (1, I a), (9, I st'.p), (10, I st'.b)] F1 → SubH [hMf m, hV ⟨0, 0⟩, hV st'.v] H1 → SubS [] S1 → GI _ _ F1 H1 S1 := fun st' hst' F1 H1 S1 hF hH hS => by
      refine next (i + 1, st') F1 H1 S1 ⟨by simp only; omega, by simp only; rw [foldl_tk hx, ← hst, hst']⟩ (by simp only; omega) ?_ hH hS
      rw [wr_i64 (by omega) (by omega)] at hF
      simpa using hF
    clear next
    (repeat (first | (refine r_op ?_; first | refine r_pure hT rfl rfl rfl rfl rfl rfl ?_ | refine r_load hT rfl rfl rfl rfl rfl rfl rfl rfl rfl ?_) | refine gi_seq ?_ | refine gi_plain ?_ | refine gi_skip ?_ | refine gi_block ?_))
    refine r_thaw 24 rfl ?_
    refine r_idx (row := x.row) hT rfl rfl rfl rfl rfl rfl rfl rfl rfl rfl rfl rfl (by show (0 : Int) ≤ (i : Int); omega) (by simp [hx]) ?_
    (repeat (first | refine r_end ?_ | (refine r_op ?_; first | refine r_pure hT rfl rfl rfl rfl rfl rfl ?_ | refine r_load hT rfl rfl rfl rfl rfl rfl rfl rfl rfl ?_ | refine r_store hT rfl rfl rfl rfl rfl rfl rfl rfl rfl rfl ?_ | refine r_alloc hT rfl rfl rfl rfl rfl rfl rfl rfl rfl ?_) | refine gi_seq ?_ | refine gi_plain ?_))
    refine r_call (rIn_ok a x.p x.b) rfl rfl rfl rfl rfl rfl rfl rfl Try.func26 rfl rfl rfl pB ?_
    rintro r S1 ⟨rfl, rfl⟩
    (repeat ((refine r_op ?_; refine r_pure hT rfl rfl rfl rfl rfl rfl ?_)))
    refine r_case (d := 34) rfl (fun c1 => ?_) (fun c1 => ?_)
    · (repeat (first | refine r_end ?_ | (refine r_op ?_; first | refine r_pure hT rfl rfl rfl rfl rfl rfl ?_ | refine r_load hT rfl rfl rfl rfl rfl rfl rfl rfl rfl ?_)))
      refine gi_lt rfl (fun c3 => ?_) (fun c3 => ?_)
      · have hs1 : (⟨x.v, x.p, x.b, true⟩ : Src) = xSn a st x := (if_pos ⟨c1, c3⟩).symm
        (repeat (first | refine r_end ?_ | (refine r_op ?_; first | refine r_pure hT rfl rfl rfl rfl rfl rfl ?_ | refine r_load hT rfl rfl rfl rfl rfl rfl rfl rfl rfl ?_ | refine r_store hT rfl rfl rfl rfl rfl rfl rfl rfl rfl rfl ?_) | refine gi_seq ?_ | refine gi_plain ?_ | refine gi_inBlock ?_))
        exact go _ hs1 _ _ _ ⟨rfl, rfl, rfl, rfl, rfl, rfl, rfl, trivial⟩ ⟨rfl, rfl, rfl, trivial⟩ trivial
      · have hs1 : st = xSn a st x := (if_neg (fun h => c3 h.2)).symm
        (repeat (first | refine r_end ?_ | (refine r_op ?_; refine r_pure hT rfl rfl rfl rfl rfl rfl ?_) | refine gi_plain ?_ | refine gi_skip ?_ | refine gi_inBlock ?_))
        exact go _ hs1 _ _ _ ⟨rfl, rfl, rfl, rfl, rfl, rfl, rfl, trivial⟩ ⟨rfl, rfl, rfl, trivial⟩ trivial
    · have hs1 : st = xSn a st x := (if_neg (fun h => by rw [c1] at h; cases h.1)).symm
      (repeat (first | refine r_end ?_ | (refine r_op ?_; first | refine r_pure hT rfl rfl rfl rfl rfl rfl ?_ | refine r_off rfl rfl rfl rfl rfl ?_) | refine gi_plain ?_ | refine gi_skip ?_ | refine gi_inBlock ?_ | (refine gi_cnd ?_; first | refine gi_true rfl ?_ | refine gi_false rfl ?_)))
      exact go _ hs1 _ _ _ ⟨rfl, rfl, rfl, rfl, rfl, rfl, rfl, trivial⟩ ⟨rfl, rfl, rfl, trivial⟩ trivial
  · rw [List.length_map] at h3
    have hil : i = m.sn.length := by omega
    subst hil
    rw [List.take_length] at hst
    clear next
    (repeat (first | refine r_end ?_ | (refine r_op ?_; refine r_pure hT rfl rfl rfl rfl rfl rfl ?_) | refine gi_seq ?_ | refine gi_plain ?_ | refine gi_block ?_ | refine gi_exit rfl ?_))
    refine gi_loop (σ := Nat × Src) (fun s => [(13, I (s.1 : Int)), (2, .box 0 0), (4, .box 1 0), (8, .box 2 0), (1, I a), (9, I s.2.p), (10, I s.2.b)]) (fun s => [hMf m, hV ⟨0, 0⟩, hV s.2.v]) (fun _ => []) (fun s => s.1 ≤ m.sb.length ∧ s.2 = (m.sb.take s.1).foldl (xSb a) st) (fun s => m.sb.length - s.1) (0, st) ⟨Nat.zero_le _, rfl⟩ ⟨rfl, rfl, rfl, rfl, rfl, rfl, rfl, trivial⟩ ⟨rfl, rfl, rfl, trivial⟩ trivial (fun _ => rfl) (fun s hs next => ?_)
    obtain ⟨i, su⟩ := s
    obtain ⟨hi, hsu⟩ := hs
    simp only at hi hsu
    (repeat (first | refine r_end ?_ | (refine r_op ?_; first | refine r_pure hT rfl rfl rfl rfl rfl rfl ?_ | refine r_load hT rfl rfl rfl rfl rfl rfl rfl rfl rfl ?_) | refine gi_seq ?_ | refine gi_plain ?_))
    refine gi_lt (p := (i : Int)) (q := ((m.sb.map Sb.row).length : Int)) rfl (fun h3 => ?_) (fun h3 => ?_)
    · rw [List.length_map] at h3
      obtain ⟨x, hx⟩ : ∃ x, m.sb[i]? = some x := ⟨_, List.getElem?_eq_getElem (by omega)⟩
      have go : ∀ st', st' = xSb a su x → ∀ F1 H1 S1, SubF [(13, I (wr .i64 ((i : Int) + 1))), (2, .box 0 0), (4, .box 1 0), (8, .box 2 0), (1, I a), (9, I st'.p), (10, I st'.b)] F1 → SubH [hMf m, hV ⟨0, 0⟩, hV st'.v] H1 → SubS [] S1 → GI _ _ F1 H1 S1 := fun st' hst' F1 H1 S1 hF hH hS => by
        refine next (i + 1, st') F1 H1 S1 ⟨by simp only; omega, by simp only; rw [foldl_tk hx, ← hsu, hst']⟩ (by simp only; omega) ?_ hH hS
        rw [wr_i64 (by omega) (by omega)] at hF
        simpa using hF
      clear next
      (repeat (first | (refine r_op ?_; first | refine r_pure hT rfl rfl rfl rfl rfl rfl ?_ | refine r_load hT rfl rfl rfl rfl rfl rfl rfl rfl rfl ?_) | refine gi_seq ?_ | refine gi_plain ?_ | refine gi_skip ?_ | refine gi_block ?_))
      refine r_thaw 54 rfl ?_
      refine r_idx (row := x.row) hT rfl rfl rfl rfl rfl rfl rfl rfl rfl rfl rfl rfl (by show (0 : Int) ≤ (i : Int); omega) (by simp [hx]) ?_
      (repeat (first | refine r_end ?_ | (refine r_op ?_; first | refine r_pure hT rfl rfl rfl rfl rfl rfl ?_ | refine r_load hT rfl rfl rfl rfl rfl rfl rfl rfl rfl ?_ | refine r_store hT rfl rfl rfl rfl rfl rfl rfl rfl rfl rfl ?_ | refine r_alloc hT rfl rfl rfl rfl rfl rfl rfl rfl rfl ?_) | refine gi_seq ?_ | refine gi_plain ?_))
      refine r_call (rIn_ok a x.p x.b) rfl rfl rfl rfl rfl rfl rfl rfl Try.func26 rfl rfl rfl pB ?_
      rintro r S1 ⟨rfl, rfl⟩
      (repeat ((refine r_op ?_; refine r_pure hT rfl rfl rfl rfl rfl rfl ?_)))
      refine r_case (d := 64) rfl (fun c1 => ?_) (fun c1 => ?_)
      · (repeat (first | refine r_end ?_ | (refine r_op ?_; first | refine r_pure hT rfl rfl rfl rfl rfl rfl ?_ | refine r_load hT rfl rfl rfl rfl rfl rfl rfl rfl rfl ?_)))
        refine gi_lt rfl (fun c3 => ?_) (fun c3 => ?_)
        · have hs1 : (⟨⟨1, x.r⟩, x.p, x.b, true⟩ : Src) = xSb a su x := (if_pos ⟨c1, c3⟩).symm
          (repeat (first | refine r_end ?_ | (refine r_op ?_; first | refine r_pure hT rfl rfl rfl rfl rfl rfl ?_ | refine r_load hT rfl rfl rfl rfl rfl rfl rfl rfl rfl ?_ | refine r_store hT rfl rfl rfl rfl rfl rfl rfl rfl rfl rfl ?_) | refine gi_seq ?_ | refine gi_plain ?_ | refine gi_inBlock ?_))
          exact go _ hs1 _ _ _ ⟨rfl, rfl, rfl, rfl, rfl, rfl, rfl, trivial⟩ ⟨rfl, rfl, rfl, trivial⟩ trivial
        · have hs1 : su = xSb a su x := (if_neg (fun h => c3 h.2)).symm
          (repeat (first | refine r_end ?_ | (refine r_op ?_; refine r_pure hT rfl rfl rfl rfl rfl rfl ?_) | refine gi_plain ?_ | refine gi_skip ?_ | refine gi_inBlock ?_))
          exact go _ hs1 _ _ _ ⟨rfl, rfl, rfl, rfl, rfl, rfl, rfl, trivial⟩ ⟨rfl, rfl, rfl, trivial⟩ trivial
      · have hs1 : su = xSb a su x := (if_neg (fun h => by rw [c1] at h; cases h.1)).symm
        (repeat (first | refine r_end ?_ | (refine r_op ?_; first | refine r_pure hT rfl rfl rfl rfl rfl rfl ?_ | refine r_off rfl rfl rfl rfl rfl ?_) | refine gi_plain ?_ | refine gi_skip ?_ | refine gi_inBlock ?_ | (refine gi_cnd ?_; first | refine gi_true rfl ?_ | refine gi_false rfl ?_)))
        exact go _ hs1 _ _ _ ⟨rfl, rfl, rfl, rfl, rfl, rfl, rfl, trivial⟩ ⟨rfl, rfl, rfl, trivial⟩ trivial
    · rw [List.length_map] at h3
      have hil : i = m.sb.length := by omega
      subst hil
      rw [List.take_length] at hsu
      have hfin : su = xrcF a m := by unfold xrcF; rw [hsu, hst]
      clear next
      (repeat (first | refine r_end ?_ | (refine r_op ?_; refine r_pure hT rfl rfl rfl rfl rfl rfl ?_) | refine gi_seq ?_ | refine gi_plain ?_ | refine gi_exit rfl ?_))
      refine gi_lt (q := 0) rfl (fun h4 => ?_) (fun h4 => ?_)
      · (repeat (first | refine r_end ?_ | (refine r_op ?_; first | refine r_pure hT rfl rfl rfl rfl rfl rfl ?_ | refine r_store hT rfl rfl rfl rfl rfl rfl rfl rfl rfl rfl ?_) | refine gi_seq ?_ | refine gi_plain ?_))
        refine gi_retW hT Try.func17 rfl rfl [] rfl rfl rfl rfl ?_
        exact ⟨by rw [← hfin]; unfold Src.told; rw [if_pos h4]; rfl, rfl⟩
      · (repeat (first | refine r_end ?_ | (refine r_op ?_; first | refine r_pure hT rfl rfl rfl rfl rfl rfl ?_ | refine r_load hT rfl rfl rfl rfl rfl rfl rfl rfl rfl ?_ | refine r_store hT rfl rfl rfl rfl rfl rfl rfl rfl rfl rfl ?_) | refine gi_seq ?_ | refine gi_plain ?_ | refine gi_skip ?_))
        refine gi_retW hT Try.func17 rfl rfl [] rfl rfl rfl rfl ?_
        exact ⟨by rw [← hfin]; unfold Src.told; rw [if_neg h4], rfl⟩
end Go.Proofs.Ytmocggibcniggaa.Kt
namespace Go.Proofs.Ytmocggibcniggaa.Kt
open Go Kw Go.Proofs
set_option maxHeartbeats 4000000
set_option maxRecDepth 100000
/-! ### both sides' addresses are one -/
theorem and_i64 (a b : Nat) (ha : a < 9223372036854775808) (hb : b < 9223372036854775808) : Go.bits .and .i64 (a : Int) (b : Int) = ((a &&& b : Nat) : Int) := by
  have hx : a &&& b < 2 ^ 63 := Nat.and_lt_two_pow _ (by omega)
  have h1 : (BitVec.ofInt 64 (a : Int)).toNat = a := by
    rw [BitVec.ofInt_natCast, BitVec.toNat_ofNat]; exact Nat.mod_eq_of_lt (by omega)
  have h2 : (BitVec.ofInt 64 (b : Int)).toNat = b := by
    rw [BitVec.ofInt_natCast, BitVec.toNat_ofNat]; exact Nat.mod_eq_of_lt (by omega)
  show IntKind.i64.wrap ((BitVec.ofInt 64 (a : Int) &&& BitVec.ofInt 64 (b : Int)).toNat : Int) = _
  rw [BitVec.toNat_and, h1, h2, ← wr_eq, wr_i64 (by omega) (by omega)]
def gM (n : Nat) : Int := Go.bits .and .i64 (wr .i64 (4294967295 * 2 ^ (min n 64))) 4294967295
theorem and_all {a : Int} (h0 : 0 ≤ a) (h1 : a ≤ 4294967295) : Go.bits .and .i64 a 4294967295 = a := by
  obtain ⟨n, rfl⟩ : ∃ n : Nat, a = n := ⟨a.toNat, by omega⟩
  have := and_i64 n 4294967295 (by omega) (by omega)
  rw [show ((4294967295 : Nat) : Int) = 4294967295 from rfl] at this
  rw [this]
  have h : n &&& (2 ^ 32 - 1) = n % 2 ^ 32 := Nat.and_two_pow_sub_one_eq_mod n 32
  rw [show (2 ^ 32 - 1 : Nat) = 4294967295 by decide, show (2 ^ 32 : Nat) = 4294967296 by decide] at h
  rw [h, Nat.mod_eq_of_lt (by omega)]
theorem net_same {a : Int} (b : Int) (h0 : 0 ≤ a) (h1 : a ≤ 4294967295) : netF a b = pnetF a b := by
  unfold netF pnetF
  rw [and_all h0 h1]
theorem okA_b {a : Int} (h : okA a = true) : 0 ≤ a ∧ a ≤ 4294967295 := by
  unfold okA at h
  rw [Bool.and_eq_true, leB_eq, leB_eq] at h
  exact ⟨of_decide_eq_true h.1, of_decide_eq_true h.2⟩
theorem in_same (a p b : Int) : inR a p b = inP a p b := by
  unfold inR inP
  cases ha : okA a with
  | false => rw [Bool.false_and, Bool.false_and]
  | true =>
    cases hp : okA p with
    | false => rw [Bool.true_and, Bool.true_and, Bool.false_and, Bool.false_and]
    | true =>
      rw [net_same b (okA_b ha).1 (okA_b ha).2, net_same b (okA_b hp).1 (okA_b hp).2]
theorem in_b {a p b : Int} (h : inP a p b = true) : 0 ≤ b := by
  unfold inP at h
  rw [Bool.and_eq_true, Bool.and_eq_true, Bool.and_eq_true, leB_eq] at h
  exact of_decide_eq_true h.2.2.1
/-- Nothing yet, or the same. -/
def Bth (s z : Src) : Prop := (s = z0 ∧ z = z1) ∨ (s = z ∧ z.ok = true ∧ 0 ≤ z.b)
theorem Bth.sn {a : Int} {s z : Src} (h : Bth s z) (x : Sn) : Bth (sn1 a s x) (xSn a z x) := by
  unfold sn1 xSn
  rw [in_same]
  by_cases hi : inP a x.p x.b = true
  · have hb := in_b hi
    rcases h with ⟨rfl, rfl⟩ | ⟨rfl, h1, h2⟩
    · rw [if_pos ⟨hi, .inl rfl⟩, if_pos ⟨hi, show (-1 : Int) < x.b by omega⟩]
      exact .inr ⟨rfl, rfl, hb⟩
    · by_cases hl : s.b < x.b
      · rw [if_pos ⟨hi, .inr hl⟩, if_pos ⟨hi, hl⟩]
        exact .inr ⟨rfl, rfl, hb⟩
      · rw [if_neg (fun hh => by rcases hh.2 with hh | hh; (rw [h1] at hh; cases hh); exact hl hh), if_neg (fun hh => hl hh.2)]
        exact .inr ⟨rfl, h1, h2⟩
  · rw [if_neg (fun hh => hi hh.1), if_neg (fun hh => hi hh.1)]
    exact h
theorem Bth.sb {a : Int} {s z : Src} (h : Bth s z) (x : Sb) : Bth (sb1 a s x) (xSb a z x) := by
  unfold sb1 xSb
  rw [in_same]
  by_cases hi : inP a x.p x.b = true
  · have hb := in_b hi
    rcases h with ⟨rfl, rfl⟩ | ⟨rfl, h1, h2⟩
    · rw [if_pos ⟨hi, .inl rfl⟩, if_pos ⟨hi, show (-1 : Int) < x.b by omega⟩]
      exact .inr ⟨rfl, rfl, hb⟩
    · by_cases hl : s.b < x.b
      · rw [if_pos ⟨hi, .inr hl⟩, if_pos ⟨hi, hl⟩]
        exact .inr ⟨rfl, rfl, hb⟩
      · rw [if_neg (fun hh => by rcases hh.2 with hh | hh; (rw [h1] at hh; cases hh); exact hl hh), if_neg (fun hh => hl hh.2)]
        exact .inr ⟨rfl, h1, h2⟩
  · rw [if_neg (fun hh => hi hh.1), if_neg (fun hh => hi hh.1)]
    exact h
theorem Bth.fold {α : Type} {f g : Src → α → Src} (hfg : ∀ s z x, Bth s z → Bth (f s x) (g z x)) : ∀ (l : List α) (s z : Src), Bth s z → Bth (l.foldl f s) (l.foldl g z)
  | [], _, _, h => h
  | x :: l, s, z, h => by
    rw [List.foldl_cons, List.foldl_cons]
    exact Bth.fold hfg l _ _ (hfg s z x h)
theorem src_bth (a : Int) (m : Mp) : Bth (srcF a m) (xrcF a m) :=
  Bth.fold (fun _ _ x h => h.sb x) _ _ _ (Bth.fold (fun _ _ x h => h.sn x) _ _ _ (.inl ⟨rfl, rfl⟩))
/-- The two sides tell one. -/
theorem src_same (a : Int) (m : Mp) : (xrcF a m).told = srcF a m := by
  unfold Src.told
  rcases src_bth a m with ⟨h1, h2⟩ | ⟨h1, h2, h3⟩
  · rw [h1, h2]; rfl
  · rw [if_neg (show ¬ (xrcF a m).b < 0 by omega), h1]
    cases hx : xrcF a m with
    | mk v p b ok => rw [hx] at h2; cases h2; rfl
end Go.Proofs.Ytmocggibcniggaa.Kt
namespace Go.Proofs.Ytmocggibcniggaa.Kt
open Go Kw Go.Proofs
attribute [local irreducible] Kw.GI Kw.GR Kw.FnR Kw.FnX Kw.FnI
set_option maxHeartbeats 16000000
set_option maxRecDepth 100000
/-! ### the routes of a map, as they are laid -/
abbrev hO (k : Nat) : Option (TypeId × List AV) := some (63, [.sl k])
def putR (t : List Nd) (L : List Rt) (v : Vt) (p b c : Int) : List Rt := match placeL t v with
  | none => L
  | some at_ => L ++ [⟨p, b, wr .i64 ((t.getD at_ zNd).c + c), (hopF t at_).1, (hopF t at_).2⟩]
abbrev RPut (t : List Nd) (L : List Rt) : AV → Hp → Sp → Prop := fun r H S => r = .tup [] ∧ H = [hTt t, hO 0] ∧ S = [eRt L]
/-- The routes as they are laid: of the Spans, of the Stubs. -/
def rawS (t : List Nd) (l : List Sn) (L : List Rt) : List Rt := l.foldl (fun L s => putR t L s.v s.p s.b 0) L
def rawB (t : List Nd) (l : List Sb) (L : List Rt) : List Rt := l.foldl (fun L s => putR t L ⟨1, s.r⟩ s.p s.b s.c) L
def rawR (m : Mp) (t : List Nd) : List Rt := rawB t m.sb (rawS t m.sn [])
/-- What is told: sorted, of each net the first. -/
def RtOk (L L' : List Rt) : Prop := ∃ q, Seg 0 L.length L q ∧ Srt 0 L.length q ∧ L' = cpL q
abbrev fsRt (l : List Rt) : AV := .r (.fs 5 (l.map Rt.row))
abbrev RRts (L : List Rt) : AV → Hp → Sp → Prop := fun r H S => H = [] ∧ S = [] ∧ ∃ L', r = fsRt L' ∧ RtOk L L'
end Go.Proofs.Ytmocggibcniggaa.Kt
namespace Go.Proofs.Ytmocggibcniggaa.Kt
open Go Kw Go.Proofs
attribute [local irreducible] Kw.GI Kw.GR Kw.FnR Kw.FnX Kw.FnI
set_option maxHeartbeats 16000000
set_option maxRecDepth 100000
/-! ### the route to an address -/
def zRt : Rt := ⟨0, 0, 0, 0, 0⟩
def fd1 (a : Int) (m : Option (Nat × Rt)) (i : Nat) (x : Rt) : Option (Nat × Rt) := match inP a x.p x.b with
  | true => (match m with
    | none => some (i, x)
    | some (j, y) => (match ltB y.b x.b with
      | true => some (i, x)
      | false => some (j, y)))
  | false => m
def fndN (l : List Rt) (a : Int) : Nat → Option (Nat × Rt)
  | 0 => none
  | i + 1 => match l[i]? with
    | some x => fd1 a (fndN l a i) i x
    | none => fndN l a i
def fdI : Option (Nat × Rt) → Int
  | none => -1
  | some (i, _) => i
def findF (l : List Rt) (a : Int) : Rt × Bool := match fndN l a l.length with
  | none => (zRt, false)
  | some (_, x) => (x, true)
abbrev RFd (x : Rt × Bool) : AV → Sp → Prop := fun r S => r = .tup [x.1.av, Bo x.2] ∧ S = []
abbrev zRtC : List AV := [I 0, I 0, I 0, I 0, I 0]
end Go.Proofs.Ytmocggibcniggaa.Kt
namespace Go.Proofs.Ytmocggibcniggaa.Kt
open Go Kw Go.Proofs
attribute [local irreducible] Kw.GI Kw.GR Kw.FnR Kw.FnX Kw.FnI
set_option maxHeartbeats 16000000
set_option maxRecDepth 100000
/-- What is told of a router. -/
abbrev rawL (l : List Ls) (self : Int) : List Rt := rawR (mapL l) (refTree (mapL l) ⟨1, self⟩)
end Go.Proofs.Ytmocggibcniggaa.Kt
namespace Go.Proofs.Ytmocggibcniggaa.Kt
open Go Kw Go.Proofs
set_option maxHeartbeats 4000000
set_option maxRecDepth 100000
/-! ### of each net the best: two ways to the same list -/
def pbL (x y : Rt) : Prop := x.p < y.p ∨ (x.p = y.p ∧ x.b < y.b)
instance (x y : Rt) : Decidable (pbL x y) := by unfold pbL; exact inferInstance
def pbE (x y : Rt) : Prop := x.p = y.p ∧ x.b = y.b
instance (x y : Rt) : Decidable (pbE x y) := by unfold pbE; exact inferInstance
def insT : List Rt → Rt → List Rt
  | [], r => [r]
  | x :: l, r => if pbL x r then x :: insT l r else if pbE x r then (if r.c < x.c then r :: l else x :: l) else r :: x :: l
def refR (L : List Rt) : List Rt := L.foldl insT []
theorem pbL_tr {x y z : Rt} (h : pbL x y) (h' : pbL y z) : pbL x z := by unfold pbL at *; omega
theorem pbL_irr (x : Rt) : ¬ pbL x x := by unfold pbL; omega
theorem pb_tri {x y : Rt} (h : ¬ pbL x y) (h' : ¬ pbE x y) : pbL y x := by unfold pbL pbE at *; omega
theorem pbE_L {x y z : Rt} (h : pbE x y) (h' : pbL x z) : pbL y z := by unfold pbL pbE at *; omega
theorem pbE_no {x y : Rt} (h : pbE x y) : ¬ pbL x y := by unfold pbL pbE at *; omega
theorem pbE_sy {x y : Rt} (h : pbE x y) : pbE y x := ⟨h.1.symm, h.2.symm⟩
/-- What is in the list behind an insertion. -/
theorem insT_mem {r : Rt} : ∀ {l : List Rt}, l.Pairwise pbL → ∀ {x : Rt}, x ∈ insT l r ↔ (x = r ∧ ∀ y ∈ l, pbE y r → r.c < y.c) ∨ (x ∈ l ∧ ¬ (pbE x r ∧ r.c < x.c))
  | [], _, x => by simp [insT]
  | z :: l, h, x => by
    rw [List.pairwise_cons] at h
    obtain ⟨hz, hl⟩ := h
    unfold insT
    by_cases c1 : pbL z r
    · rw [if_pos c1, List.mem_cons, insT_mem hl, List.mem_cons]
      have hzr : ¬ pbE z r := fun e => pbE_no e c1
      constructor
      · rintro (rfl | ⟨rfl, h1⟩ | ⟨h1, h2⟩)
        · exact .inr ⟨.inl rfl, fun h => hzr h.1⟩
        · refine .inl ⟨rfl, fun y hy he => ?_⟩
          rcases List.mem_cons.1 hy with rfl | hy
          · exact absurd he hzr
          · exact h1 y hy he
        · exact .inr ⟨.inr h1, h2⟩
      · rintro (⟨rfl, h1⟩ | ⟨rfl | h1, h2⟩)
        · exact .inr (.inl ⟨rfl, fun y hy => h1 y (List.mem_cons_of_mem _ hy)⟩)
        · exact .inl rfl
        · exact .inr (.inr ⟨h1, h2⟩)
    · rw [if_neg c1]
      have hno : ∀ y ∈ l, pbE z r → ¬ pbE y r := fun y hy e e' => by
        have := hz y hy
        unfold pbL pbE at *; omega
      by_cases c2 : pbE z r
      · rw [if_pos c2]
        by_cases c3 : r.c < z.c
        · rw [if_pos c3, List.mem_cons, List.mem_cons]
          constructor
          · rintro (rfl | h1)
            · refine .inl ⟨rfl, fun y hy he => ?_⟩
              rcases List.mem_cons.1 hy with rfl | hy
              · exact c3
              · exact absurd he (hno y hy c2)
            · exact .inr ⟨.inr h1, fun h => hno x h1 c2 h.1⟩
          · rintro (⟨rfl, _⟩ | ⟨rfl | h1, h2⟩)
            · exact .inl rfl
            · exact absurd ⟨c2, c3⟩ h2
            · exact .inr h1
        · rw [if_neg c3, List.mem_cons]
          constructor
          · rintro (rfl | h1)
            · exact .inr ⟨.inl rfl, fun h => c3 h.2⟩
            · exact .inr ⟨.inr h1, fun h => hno x h1 c2 h.1⟩
          · rintro (⟨rfl, h1⟩ | ⟨h1, h2⟩)
            · exact absurd (h1 z (List.mem_cons_self ..) c2) c3
            · exact h1
      · rw [if_neg c2, List.mem_cons, List.mem_cons]
        have hall : ∀ y, y = z ∨ y ∈ l → ¬ pbE y r := fun y hy e => by
          have hrz := pb_tri c1 c2
          rcases hy with rfl | hy
          · exact c2 e
          · have := hz y hy
            unfold pbL pbE at *; omega
        constructor
        · rintro (rfl | h1)
          · exact .inl ⟨rfl, fun y hy e => absurd e (hall y (List.mem_cons.1 hy))⟩
          · exact .inr ⟨h1, fun h => hall x h1 h.1⟩
        · rintro (⟨rfl, _⟩ | ⟨h1, _⟩)
          · exact .inl rfl
          · exact .inr h1
theorem insT_pw {r : Rt} : ∀ {l : List Rt}, l.Pairwise pbL → (insT l r).Pairwise pbL
  | [], _ => by simp [insT]
  | z :: l, h => by
    have h0 := h
    rw [List.pairwise_cons] at h
    obtain ⟨hz, hl⟩ := h
    unfold insT
    by_cases c1 : pbL z r
    · rw [if_pos c1, List.pairwise_cons]
      refine ⟨fun y hy => ?_, insT_pw hl⟩
      rcases (insT_mem hl).1 hy with ⟨rfl, _⟩ | ⟨hy, _⟩
      · exact c1
      · exact hz y hy
    · rw [if_neg c1]
      by_cases c2 : pbE z r
      · rw [if_pos c2]
        split
        · rw [List.pairwise_cons]
          exact ⟨fun y hy => pbE_L c2 (hz y hy), hl⟩
        · exact h0
      · rw [if_neg c2, List.pairwise_cons]
        refine ⟨fun y hy => ?_, h0⟩
        have hrz := pb_tri c1 c2
        rcases List.mem_cons.1 hy with rfl | hy
        · exact hrz
        · exact pbL_tr hrz (hz y hy)
/-- The best of its net: the first of those that cost the least. -/
structure Best (L : List Rt) (x : Rt) : Prop where
  le : ∀ y ∈ L, pbE y x → x.c ≤ y.c
  hd : (L.filter (fun y => decide (y.key = x.key))).head? = some x
theorem Best.mem {L : List Rt} {x : Rt} (h : Best L x) : x ∈ L := by
  have := List.mem_of_mem_head? h.hd
  exact (List.mem_filter.1 this).1
theorem key_pb {x y : Rt} (h : x.key = y.key) : pbE x y ∧ x.c = y.c := by
  unfold Rt.key at h
  simp only [Prod.mk.injEq] at h
  exact ⟨⟨h.1, h.2.1⟩, h.2.2⟩
theorem key_of {x y : Rt} (h : pbE x y) (h' : x.c = y.c) : x.key = y.key := by unfold Rt.key; rw [h.1, h.2, h']
theorem best_snoc {L : List Rt} {r x : Rt} : Best (L ++ [r]) x ↔ (x = r ∧ ∀ y ∈ L, pbE y r → r.c < y.c) ∨ (Best L x ∧ ¬ (pbE x r ∧ r.c < x.c)) := by
  constructor
  · rintro ⟨h1, h2⟩
    rw [List.filter_append, List.head?_append] at h2
    cases hh : (L.filter (fun y => decide (y.key = x.key))).head? with
    | some z =>
      rw [hh] at h2
      cases h2
      refine .inr ⟨⟨fun y hy => h1 y (List.mem_append_left _ hy), hh⟩, fun h => ?_⟩
      have := h1 r (List.mem_append_right _ (List.mem_singleton.2 rfl)) (pbE_sy h.1)
      omega
    | none =>
      rw [hh] at h2
      rw [List.head?_eq_none_iff] at hh
      have hne : ∀ y ∈ L, y.key ≠ x.key := fun y hy e => by
        have : y ∈ L.filter (fun y => decide (y.key = x.key)) := List.mem_filter.2 ⟨hy, decide_eq_true e⟩
        rw [hh] at this; cases this
      have h2 : ([r].filter (fun y => decide (y.key = x.key))).head? = some x := h2
      have hxr : x = r := by
        by_cases e : r.key = x.key
        · rw [List.filter_cons_of_pos (by simpa using e)] at h2
          exact (Option.some.inj h2).symm
        · rw [List.filter_cons_of_neg (by simpa using e)] at h2
          cases h2
      refine .inl ⟨hxr, fun y hy he => ?_⟩
      subst hxr
      have h3 := h1 y (List.mem_append_left _ hy) he
      rcases Int.lt_or_eq_of_le h3 with h4 | h4
      · exact h4
      · exact absurd (key_of he h4.symm) (hne y hy)
  · rintro (⟨rfl, h1⟩ | ⟨⟨h1, h2⟩, h3⟩)
    · refine ⟨fun y hy he => ?_, ?_⟩
      · rcases List.mem_append.1 hy with hy | hy
        · have := h1 y hy he; omega
        · rw [List.mem_singleton.1 hy]; exact Int.le_refl _
      · have : L.filter (fun y => decide (y.key = x.key)) = [] := by
          rw [List.filter_eq_nil_iff]
          intro y hy
          rw [decide_eq_true_iff]
          intro e
          obtain ⟨e1, e2⟩ := key_pb e
          have := h1 y hy e1
          omega
        rw [List.filter_append, this]
        simp
    · refine ⟨fun y hy he => ?_, ?_⟩
      · rcases List.mem_append.1 hy with hy | hy
        · exact h1 y hy he
        · rw [List.mem_singleton.1 hy] at he ⊢
          rcases Int.lt_or_le r.c x.c with h | h
          · exact absurd ⟨pbE_sy he, h⟩ h3
          · exact h
      · rw [List.filter_append, List.head?_append, h2]; rfl
theorem best_ex : ∀ (L : List Rt) (y : Rt), y ∈ L → ∃ z, Best L z ∧ pbE z y ∧ z.c ≤ y.c := by
  have key : ∀ (n : Nat) (L : List Rt), L.length = n → ∀ y ∈ L, ∃ z, Best L z ∧ pbE z y ∧ z.c ≤ y.c := by
    intro n
    induction n with
    | zero => intro L hL y hy; rw [List.eq_nil_of_length_eq_zero hL] at hy; cases hy
    | succ n ih =>
      intro L hL y hy
      obtain ⟨M, r, rfl⟩ : ∃ M r, L = M ++ [r] := ⟨L.dropLast, L.getLast (by intro e; rw [e] at hL; cases hL), (List.dropLast_concat_getLast _).symm⟩
      have hM : M.length = n := by rw [List.length_append, List.length_singleton] at hL; omega
      by_cases hall : ∀ z ∈ M, pbE z r → r.c < z.c
      · by_cases hyr : pbE r y
        · refine ⟨r, best_snoc.2 (.inl ⟨rfl, hall⟩), hyr, ?_⟩
          rcases List.mem_append.1 hy with hy | hy
          · have := hall y hy (pbE_sy hyr); omega
          · rw [List.mem_singleton.1 hy]; exact Int.le_refl _
        · have hyM : y ∈ M := by
            rcases List.mem_append.1 hy with hy | hy
            · exact hy
            · rw [List.mem_singleton.1 hy] at hyr; exact absurd ⟨rfl, rfl⟩ hyr
          obtain ⟨z, h1, h2, h3⟩ := ih M hM y hyM
          refine ⟨z, best_snoc.2 (.inr ⟨h1, fun h => hyr ?_⟩), h2, h3⟩
          have := h.1
          unfold pbE at *; omega
      · obtain ⟨w, hw⟩ : ∃ w, w ∈ M ∧ pbE w r ∧ ¬ r.c < w.c := by
          rcases Classical.em (∃ w, w ∈ M ∧ pbE w r ∧ ¬ r.c < w.c) with h | h
          · exact h
          · exact absurd (fun z hz he => Classical.byContradiction fun hc => h ⟨z, hz, he, hc⟩) hall
        obtain ⟨hw1, hw2, hw3⟩ := hw
        have hyc : ∃ u ∈ M, pbE u y ∧ u.c ≤ y.c := by
          rcases List.mem_append.1 hy with hy | hy
          · exact ⟨y, hy, ⟨rfl, rfl⟩, Int.le_refl _⟩
          · rw [List.mem_singleton.1 hy]; exact ⟨w, hw1, hw2, by omega⟩
        obtain ⟨u, hu1, hu2, hu3⟩ := hyc
        obtain ⟨z, h1, h2, h3⟩ := ih M hM u hu1
        refine ⟨z, best_snoc.2 (.inr ⟨h1, fun h => ?_⟩), ⟨h2.1.trans hu2.1, h2.2.trans hu2.2⟩, by omega⟩
        have := h1.le w hw1 ⟨hw2.1.trans h.1.1.symm, hw2.2.trans h.1.2.symm⟩
        omega
  exact fun L y hy => key L.length L rfl y hy
/-- A list of the best ones, in order. -/
structure Told (L M : List Rt) : Prop where
  pw : M.Pairwise pbL
  mem : ∀ x, x ∈ M ↔ Best L x
theorem Told.nil : Told [] [] := ⟨List.Pairwise.nil, fun x => ⟨fun h => (nomatch h), fun h => h.mem⟩⟩
theorem Told.snoc {L M : List Rt} (h : Told L M) (r : Rt) : Told (L ++ [r]) (insT M r) := by
  refine ⟨insT_pw h.pw, fun x => ?_⟩
  rw [insT_mem h.pw, best_snoc, h.mem]
  have : (∀ y ∈ M, pbE y r → r.c < y.c) ↔ (∀ y ∈ L, pbE y r → r.c < y.c) := by
    constructor
    · intro hh y hy he
      obtain ⟨z, h1, h2, h3⟩ := best_ex L y hy
      have := hh z ((h.mem z).2 h1) ⟨h2.1.trans he.1, h2.2.trans he.2⟩
      omega
    · intro hh y hy he
      exact hh y ((h.mem y).1 hy).mem he
  rw [this]
theorem pw_eq : ∀ {l m : List Rt}, l.Pairwise pbL → m.Pairwise pbL → (∀ x, x ∈ l ↔ x ∈ m) → l = m
  | [], [], _, _, _ => rfl
  | [], y :: m, _, _, h => absurd ((h y).2 (List.mem_cons_self ..)) (fun h => (nomatch h))
  | x :: l, [], _, _, h => absurd ((h x).1 (List.mem_cons_self ..)) (fun h => (nomatch h))
  | x :: l, y :: m, hl, hm, h => by
    rw [List.pairwise_cons] at hl hm
    have hxy : x = y := by
      rcases List.mem_cons.1 ((h x).1 (List.mem_cons_self ..)) with e | h1
      · exact e
      · rcases List.mem_cons.1 ((h y).2 (List.mem_cons_self ..)) with e | h2
        · exact e.symm
        · exact absurd (pbL_tr (hl.1 y h2) (hm.1 x h1)) (pbL_irr x)
    subst hxy
    refine congrArg (x :: ·) (pw_eq hl.2 hm.2 (fun z => ?_))
    have hz := h z
    rw [List.mem_cons, List.mem_cons] at hz
    constructor
    · intro h1
      rcases hz.1 (.inr h1) with rfl | h2
      · exact absurd (hl.1 z h1) (pbL_irr z)
      · exact h2
    · intro h1
      rcases hz.2 (.inr h1) with rfl | h2
      · exact absurd (hm.1 z h1) (pbL_irr z)
      · exact h2
theorem Told.uniq {L M N : List Rt} (h : Told L M) (h' : Told L N) : M = N := pw_eq h.pw h'.pw (fun x => (h.mem x).trans (h'.mem x).symm)
/-! what is left of a sorted list -/
theorem eqRt_iff {x y : Rt} : eqRt x y = true ↔ pbE x y := by
  unfold eqRt pbE
  rw [Bool.and_eq_true, eqB_eq, eqB_eq]
  simp
theorem cpN_snoc {l : List Rt} {i : Nat} {y : Rt} (hy : l[i]? = some y) : cpN l (i + 1) = if i = 0 ∨ (∀ x, l[i - 1]? = some x → ¬ pbE y x) then cpN l i ++ [y] else cpN l i := by
  cases i with
  | zero => rw [if_pos (.inl rfl), cpN_one hy]; rfl
  | succ i =>
    obtain ⟨x, hx⟩ : ∃ x, l[i]? = some x := ⟨_, List.getElem?_eq_getElem (by have := (List.getElem?_eq_some_iff.1 hy).1; omega)⟩
    rw [cpN_eq hx hy]
    by_cases c : pbE y x
    · rw [if_neg (by rw [eqRt_iff.2 c]; decide), if_neg (fun h => by
        rcases h with h | h
        · omega
        · exact h x (by rw [show i + 1 - 1 = i by omega]; exact hx) c)]
    · rw [if_pos (by cases he : eqRt y x with
        | false => rfl
        | true => exact absurd (eqRt_iff.1 he) c), if_pos (.inr (fun z hz => by rw [show i + 1 - 1 = i by omega, hx] at hz; cases hz; exact c))]
theorem srt_le {l : List Rt} (hs : Srt 0 l.length l) {i j : Nat} {x y : Rt} (hij : i ≤ j) (hx : l[i]? = some x) (hy : l[j]? = some y) : ¬ kLt y x := hs.at (Nat.zero_le _) hij (List.getElem?_eq_some_iff.1 hy).1 hx hy
theorem kLe_pb {x y : Rt} (h : ¬ kLt y x) (h' : ¬ pbE y x) : pbL x y := by unfold kLt pbE pbL at *; omega
theorem kLe_c {x y : Rt} (h : ¬ kLt y x) (h' : pbE y x) : x.c ≤ y.c := by unfold kLt pbE at *; omega
/-- What the first i leave: those that are the first of their net. -/
theorem cpN_mem {l : List Rt} (hs : Srt 0 l.length l) : ∀ {i : Nat}, i ≤ l.length → (cpN l i).Pairwise pbL ∧ (∀ x, x ∈ cpN l i ↔ ∃ j : Nat, j < i ∧ l[j]? = some x ∧ ∀ (u : Nat) y, u < j → l[u]? = some y → ¬ pbE y x)
  | 0, _ => ⟨List.Pairwise.nil, fun x => ⟨fun h => (nomatch h), fun ⟨j, h, _⟩ => absurd h (Nat.not_lt_zero _)⟩⟩
  | i + 1, hi => by
    obtain ⟨y, hy⟩ : ∃ y, l[i]? = some y := ⟨_, List.getElem?_eq_getElem (by omega)⟩
    obtain ⟨h1, h2⟩ := cpN_mem hs (i := i) (by omega)
    rw [cpN_snoc hy]
    by_cases c : i = 0 ∨ (∀ x, l[i - 1]? = some x → ¬ pbE y x)
    · rw [if_pos c]
      have hfirst : ∀ (u : Nat) z, u < i → l[u]? = some z → pbL z y := fun u z hu hz => by
        rcases c with c | c
        · omega
        · obtain ⟨x, hx⟩ : ∃ x, l[i - 1]? = some x := ⟨_, List.getElem?_eq_getElem (by omega)⟩
          have a1 := kLe_pb (srt_le hs (show i - 1 ≤ i by omega) hx hy) (c x hx)
          have a2 := srt_le hs (show u ≤ i - 1 by omega) hz hx
          by_cases e : pbE x z
          · exact pbE_L e a1
          · exact pbL_tr (kLe_pb a2 e) a1
      refine ⟨List.pairwise_append.2 ⟨h1, List.pairwise_singleton _ _, fun a ha b hb => ?_⟩, fun x => ?_⟩
      · rw [List.mem_singleton.1 hb]
        obtain ⟨j, hj, hja, _⟩ := (h2 a).1 ha
        exact hfirst j a hj hja
      · rw [List.mem_append, List.mem_singleton, h2]
        constructor
        · rintro (⟨j, q1, q2, q3⟩ | rfl)
          · exact ⟨j, by omega, q2, q3⟩
          · exact ⟨i, by omega, hy, fun u z hu hz e => pbE_no e (hfirst u z hu hz)⟩
        · rintro ⟨j, q1, q2, q3⟩
          rcases Nat.lt_succ_iff_lt_or_eq.1 q1 with q1 | rfl
          · exact .inl ⟨j, q1, q2, q3⟩
          · rw [hy] at q2; cases q2; exact .inr rfl
    · rw [if_neg c]
      refine ⟨h1, fun x => ?_⟩
      rw [h2]
      constructor
      · rintro ⟨j, q1, q2⟩; exact ⟨j, by omega, q2⟩
      · rintro ⟨j, q1, q2, q3⟩
        rcases Nat.lt_succ_iff_lt_or_eq.1 q1 with q1 | rfl
        · exact ⟨j, q1, q2, q3⟩
        · refine absurd (.inr (fun z hz e => ?_)) c
          rw [hy] at q2; cases q2
          by_cases h0 : j = 0
          · exact c (.inl h0)
          · exact q3 (j - 1) z (by omega) hz (pbE_sy e)
theorem first_head {l : List Rt} {x : Rt} : ∀ {j : Nat}, l[j]? = some x → (∀ (u : Nat) y, u < j → l[u]? = some y → ¬ pbE y x) → (l.filter (fun y => decide (y.key = x.key))).head? = some x := by
  induction l with
  | nil => intro j h; cases h
  | cons z l ih =>
    intro j h hn
    cases j with
    | zero =>
      simp only [List.getElem?_cons_zero, Option.some.injEq] at h
      subst h
      rw [List.filter_cons_of_pos (by simp)]
      rfl
    | succ j =>
      have hz := hn 0 z (by omega) rfl
      rw [List.filter_cons_of_neg (by simpa using fun e => hz (key_pb e).1)]
      exact ih (j := j) (by simpa using h) (fun u y hu hy => hn (u + 1) y (by omega) (by simpa using hy))
theorem told_cp {L q : List Rt} (h : Stb L q) (hs : Srt 0 q.length q) : Told L (cpL q) := by
  obtain ⟨h1, h2⟩ := cpN_mem hs (Nat.le_refl _)
  refine ⟨h1, fun x => ?_⟩
  rw [h2]
  constructor
  · rintro ⟨j, q1, q2, q3⟩
    refine ⟨fun y hy he => ?_, by rw [← h x.key]; exact first_head q2 q3⟩
    obtain ⟨u, hu⟩ := List.mem_iff_getElem?.1 (h.mem.2 hy)
    rcases Nat.lt_or_ge u j with c | c
    · exact absurd he (q3 u y c hu)
    · exact kLe_c (srt_le hs c q2 hu) he
  · intro hb
    -- the first of its net in q
    have hx : x ∈ q := h.mem.2 hb.mem
    obtain ⟨i, hi⟩ := List.mem_iff_getElem?.1 hx
    have hex : ∃ j : Nat, ∃ z, q[j]? = some z ∧ pbE z x ∧ ∀ (u : Nat) y, u < j → q[u]? = some y → ¬ pbE y x := by
      have key : ∀ (n i : Nat) (z : Rt), i ≤ n → q[i]? = some z → pbE z x → ∃ j : Nat, ∃ z, q[j]? = some z ∧ pbE z x ∧ ∀ (u : Nat) y, u < j → q[u]? = some y → ¬ pbE y x := by
        intro n
        induction n with
        | zero => intro i z hin hz he; exact ⟨i, z, hz, he, fun u y hu => by omega⟩
        | succ n ih =>
          intro i z hin hz he
          rcases Classical.em (∃ (u : Nat) (y : Rt), u < i ∧ q[u]? = some y ∧ pbE y x) with ⟨u, y, hu, hy, hye⟩ | hno
          · exact ih u y (by omega) hy hye
          · exact ⟨i, z, hz, he, fun u y hu hy hye => hno ⟨u, y, hu, hy, hye⟩⟩
      exact key i i x (Nat.le_refl _) hi ⟨rfl, rfl⟩
    obtain ⟨j, z, hz, hzx, hfirst⟩ := hex
    have hjl := (List.getElem?_eq_some_iff.1 hz).1
    -- it costs as x does, so it is x
    have hzL : z ∈ L := h.mem.1 (List.mem_of_getElem? hz)
    have c1 := hb.le z hzL hzx
    have hji : j ≤ i := by
      rcases Nat.lt_or_ge i j with c | c
      · exact absurd ⟨rfl, rfl⟩ (hfirst i x c hi)
      · exact c
    have c2 := kLe_c (srt_le hs hji hz hi) (pbE_sy hzx)
    have hkey : z.key = x.key := key_of hzx (by omega)
    have hzz : ∀ (u : Nat) y, u < j → q[u]? = some y → ¬ pbE y z := fun u y hu hy he => hfirst u y hu hy ⟨he.1.trans hzx.1, he.2.trans hzx.2⟩
    have h3 := first_head hz hzz
    rw [hkey, h x.key, hb.hd] at h3
    cases h3
    exact ⟨j, hjl, hz, hzz⟩
theorem RtOk.told {L M : List Rt} (h : ∃ q, Seg 0 L.length L q ∧ Srt 0 L.length q ∧ M = cpL q) : Told L M := by
  obtain ⟨q, h1, h2, rfl⟩ := h
  exact told_cp h1.stb (by rw [h1.len]; exact h2)
end Go.Proofs.Ytmocggibcniggaa.Kt
namespace Go.Proofs.Ytmocggibcniggaa.Kt
open Go Kw Go.Proofs
attribute [local irreducible] Kw.GI Kw.GR Kw.FnR Kw.FnX Kw.FnI
set_option maxHeartbeats 16000000
set_option maxRecDepth 100000
/-! ### the reference's routes -/
structure Ent where
  v : Vt
  p : Int
  b : Int
  c : Int
def entS (s : Sn) : Ent := ⟨s.v, s.p, s.b, 0⟩
def entB (s : Sb) : Ent := ⟨⟨1, s.r⟩, s.p, s.b, s.c⟩
def ents (m : Mp) : List Ent := m.sn.map entS ++ m.sb.map entB
def rawE (t : List Nd) (E : List Ent) : List Rt := E.foldl (fun L e => putR t L e.v e.p e.b e.c) []
abbrev bRow (b : Bool) : List RV := [.v (.bool b)]
abbrev eBl (l : List Bool) : Option SE := some ⟨4, 1, l.map bRow, false⟩
abbrev eBr (L : List (List RV)) : Option SE := some ⟨4, 1, L, false⟩
abbrev eRr (L : List (List RV)) : Option SE := some ⟨67, 5, L, false⟩
abbrev zRr : List RV := [.v (.int .i64 0), .v (.int .i64 0), .v (.int .i64 0), .v (.int .i64 0), .v (.int .i64 0)]
/-- What the round has found: the list, and whose of Spans they are. -/
structure Rnd (m : Mp) (t : List Nd) (i : Nat) (M : List Rt) (B : List Bool) : Prop where
  eq : M = refR (rawE t ((ents m).take i))
  len : B.length = M.length
  sp : i ≤ m.sn.length → ∀ b ∈ B, b = true
end Go.Proofs.Ytmocggibcniggaa.Kt
namespace Go.Proofs.Ytmocggibcniggaa.Kt
open Go Kw Go.Proofs
set_option maxRecDepth 100000
/-! ### how an edge came into the map -/
inductive Ho (l : List Ls) (e : Eg) : Prop
  | rr (x y : Ls) (q : Lk) : findL l e.f = some x → q ∈ x.lk → q.k = 1 → e.t = ⟨1, q.i⟩ → findL l e.t = some y → e.c = q.c → e.d = q.d → Ho l e
  | rn (x y : Ls) (q : Lk) : findL l e.f = some x → q ∈ x.lk → q.k = 2 → e.t = ⟨2, q.i⟩ → findL l e.t = some y → e.f.i ∈ y.rt → e.c = q.c → e.d = q.d → Ho l e
  | nr (x y : Ls) (q : Lk) : findL l e.f = some x → e.t.k = 1 → e.t.i ∈ x.rt → findL l e.t = some y → backL y.lk 2 e.f.i = some q → e.c = 0 → e.d = q.d → Ho l e
theorem getD_some {α : Type} {o : Option α} {d : α} (h : o.isSome = true) : o = some (o.getD d) := by
  cases o with
  | none => cases h
  | some x => rfl
theorem edRs_how {l : List Ls} {v : Vt} {x : Ls} (hx : findL l v = some x) {e : Eg} : ∀ {j : Nat}, e ∈ edRs l v x.rt j → Ho l e
  | 0, h => by cases h
  | j + 1, h => by
    unfold edRs at h
    rcases List.mem_append.1 h with h | h
    · exact edRs_how hx h
    · split at h
      · rename_i r hr
        unfold edR at h
        split at h
        · cases h
        · split at h
          · rename_i hc
            rw [Bool.and_eq_true] at hc
            rw [List.mem_singleton.1 h]
            exact .nr x _ _ hx rfl (List.mem_of_getElem? hr) (getD_some hc.1) (getD_some hc.2) rfl rfl
          · cases h
      · cases h
theorem from_how {l : List Ls} {v : Vt} {e : Eg} (h : e ∈ fromL l v) : Ho l e := by
  unfold fromL at h
  cases hx : findL l v with
  | none =>
    rw [hx] at h
    cases h
  | some x =>
    rw [hx] at h
    rcases List.mem_append.1 h with h | h
    · obtain ⟨k, hk, hk'⟩ := List.mem_flatMap.1 h
      rcases List.mem_append.1 hk' with h | h
      · unfold edK1 at h
        split at h
        · rename_i h0
          split at h
          · rename_i hc
            rw [Bool.and_eq_true] at hc
            rw [List.mem_singleton.1 h]
            rw [eqB_eq] at h0
            exact .rr x _ k hx hk (by simpa using h0) rfl (getD_some (d := zLs) hc.1) rfl rfl
          · cases h
        · cases h
      · unfold edK2 at h
        split at h
        · rename_i h0
          split at h
          · rename_i hc
            rw [Bool.and_eq_true] at hc
            rw [List.mem_singleton.1 h]
            rw [eqB_eq] at h0
            exact .rn x _ k hx hk (by simpa using h0) rfl (getD_some (d := zLs) hc.1) (by simpa using hc.2) rfl rfl
          · cases h
        · cases h
    · exact edRs_how hx h
theorem map_how {l : List Ls} {e : Eg} (h : e ∈ (mapL l).es) : Ho l e := by
  obtain ⟨v, _, hv⟩ := List.mem_flatMap.1 h
  exact from_how hv
theorem back_is {lk : List Lk} {k i : Int} {q : Lk} (h : backL lk k i = some q) : q ∈ lk ∧ q.k = k ∧ q.i = i := by
  unfold backL at h
  have h1 := List.find?_some h
  unfold bkP at h1
  rw [Bool.and_eq_true] at h1
  exact ⟨List.mem_of_find?_eq_some h, of_decide_eq_true h1.1, of_decide_eq_true h1.2⟩
/-! ### what Graph's links are like -/
/-- Of router r, of k. -/
structure LkG (k r : Int) (q : Lk) : Prop where
  pos : 1 ≤ q.c
  ten : q.c ≤ 10
  kd : (q.k = 1 ∧ 1 ≤ q.i ∧ q.i ≤ k ∧ q.i ≠ r ∧ 1000 ≤ q.d ∧ q.d ≤ 2036) ∨ (q.k = 2 ∧ q.d = q.i + r ∧ q.i % 256 = 0 ∧ 25856 ≤ q.i ∧ q.i ≤ 27648) ∨ (q.k = 3 ∧ q.i = 256 * (200 + r) ∧ q.d = 4294967040)
structure GsG (k : Nat) (gs : List Ls) : Prop where
  len : gs.length = k
  el : ∀ (j : Nat) (x : Ls), gs[j]? = some x → x = ⟨0, 1, (j : Int) + 1, (j : Int) + 1, 0, 0, 0, 0, x.lk, 0, [], []⟩ ∧ ∀ q ∈ x.lk, LkG k ((j : Int) + 1) q
theorem GsG.add {k : Nat} {gs : List Ls} (h : GsG k gs) {a : Nat} {x : Ls} (hx : gs[a]? = some x) {q : Lk} (hq : LkG k ((a : Int) + 1) q) : GsG k (gs.set a (x.add q)) := by
  refine ⟨by rw [List.length_set]; exact h.len, fun j y hy => ?_⟩
  rcases get_set hy with ⟨rfl, rfl, _⟩ | ⟨_, hy⟩
  · obtain ⟨h1, h2⟩ := h.el a x hx
    refine ⟨by unfold Ls.add; rw [h1], fun q' hq' => ?_⟩
    rcases List.mem_append.1 hq' with hq' | hq'
    · exact h2 q' hq'
    · rw [List.mem_singleton.1 hq']; exact hq
  · exact h.el j y hy
theorem Gp.g {k P : Nat} {non : Bool} {i : Nat} {gs : List Ls} (h : Gp k P non i gs) : GsG k gs := by
  induction h with
  | start =>
    refine ⟨by simp, fun j x hx => ?_⟩
    rw [List.getElem?_map] at hx
    cases hr : (List.range k)[j]? with
    | none => rw [hr] at hx; cases hx
    | some z =>
      rw [hr] at hx
      cases hx
      obtain ⟨_, rfl⟩ := List.getElem?_eq_some_iff.1 hr
      rw [List.getElem_range]
      exact ⟨rfl, fun q hq => (nomatch hq)⟩
  | skip _ _ _ ih => exact ih
  | one _ _ h3 h4 h5 h6 h7 h8 _ ih =>
    obtain ⟨q1, q2, q3, q4, q5⟩ := h8
    exact ih.add h7 ⟨q4, by omega, .inl ⟨q1, by omega, by omega, by omega, by omega, by omega⟩⟩
  | two _ _ h3 h4 h5 h6 h7 h8 h9 h10 ih =>
    obtain ⟨q1, q2, q3, q4, q5⟩ := h8
    obtain ⟨r1, r2, r3, r4, r5⟩ := h10
    exact (ih.add h7 ⟨q4, by omega, .inl ⟨q1, by omega, by omega, by omega, by omega, by omega⟩⟩).add h9 ⟨r4, by omega, .inl ⟨r1, by omega, by omega, by omega, by omega, by omega⟩⟩
theorem Gn.lt {k P Q : Nat} {non : Bool} {i : Nat} {gs ns : List Ls} {o : Option (Nat × List Int)} (h : Gn k P Q non i gs ns o) : i ≤ 8 ∧ (o.isSome = true → i < 8) := by
  induction h with
  | start _ => exact ⟨by omega, fun h => by cases h⟩
  | into _ _ h2 _ => exact ⟨by omega, fun _ => h2⟩
  | skip _ _ ih => exact ⟨ih.1, fun _ => ih.2 rfl⟩
  | half _ _ _ _ ih => exact ⟨ih.1, fun _ => ih.2 rfl⟩
  | full _ _ _ _ _ ih => exact ⟨ih.1, fun _ => ih.2 rfl⟩
  | out _ _ _ ih => exact ⟨by have := ih.2 rfl; omega, fun h => by cases h⟩
theorem Gn.g {k P Q : Nat} {non : Bool} {i : Nat} {gs ns : List Ls} {o : Option (Nat × List Int)} (h : Gn k P Q non i gs ns o) : GsG k gs := by
  induction h with
  | start h => exact h.g
  | into _ _ _ ih => exact ih
  | skip _ _ ih => exact ih
  | half _ _ _ _ ih => exact ih
  | full h0 h1 h2 h3 _ ih =>
    have := h0.lt.2 rfl
    obtain ⟨q1, q2, q3, q4, q5⟩ := h3
    exact ih.add h2 ⟨q4, by omega, .inr (.inl ⟨q1, by omega, by omega, by omega, by omega⟩)⟩
  | out _ _ _ ih => exact ih
theorem Gf.g {k P Q : Nat} {non : Bool} {r : Nat} {gs ns : List Ls} (h : Gf k P Q non r gs ns) : GsG k gs := by
  induction h with
  | start h => exact h.g
  | stub _ _ h2 h3 ih =>
    obtain ⟨q1, q2, q3, q4, q5⟩ := h3
    exact ih.add h2 ⟨q4, by omega, .inr (.inr ⟨q1, by omega, q3⟩)⟩
/-- The networks: which are there, whose they are. -/
structure NsG (k : Nat) (i : Nat) (ns : List Ls) : Prop where
  len : ns.length = i
  el : ∀ (j : Nat) (y : Ls), ns[j]? = some y → y = ⟨0, 2, 256 * (101 + (j : Int)), y.adv, 0, 0, 0, 0, [], 24, y.rt, []⟩ ∧ (∀ z ∈ y.rt, 1 ≤ z ∧ z ≤ (k : Int)) ∧ y.rt.Nodup
theorem Gn.n {k P Q : Nat} {non : Bool} {i : Nat} {gs ns : List Ls} {o : Option (Nat × List Int)} (h : Gn k P Q non i gs ns o) : NsG k i ns ∧ ∀ r rt, o = some (r, rt) → r ≤ k ∧ (∀ z ∈ rt, 1 ≤ z ∧ z ≤ (r : Int)) ∧ rt.Nodup := by
  have snoc : ∀ {r : Nat} {rt : List Int} {z : Int}, z = (r : Int) + 1 → r < k → (r ≤ k ∧ (∀ z ∈ rt, 1 ≤ z ∧ z ≤ (r : Int)) ∧ rt.Nodup) → (r + 1 ≤ k ∧ (∀ y ∈ rt ++ [z], 1 ≤ y ∧ y ≤ ((r + 1 : Nat) : Int)) ∧ (rt ++ [z]).Nodup) := by
    rintro r rt z rfl hr ⟨_, h1, h2⟩
    refine ⟨by omega, fun y hy => ?_, ?_⟩
    · rcases List.mem_append.1 hy with hy | hy
      · have := h1 y hy; omega
      · rw [List.mem_singleton.1 hy]; omega
    · rw [List.nodup_append]
      refine ⟨h2, by simp, fun a ha b hb => ?_⟩
      rw [List.mem_singleton.1 hb]
      have := h1 a ha
      omega
  induction h with
  | start h => exact ⟨⟨rfl, fun j y hy => by simp at hy⟩, fun r rt h => by cases h⟩
  | into _ _ _ ih => exact ⟨ih.1, fun r rt h => by cases h; exact ⟨by omega, fun z hz => (nomatch hz), List.nodup_nil⟩⟩
  | skip _ h1 ih => exact ⟨ih.1, fun r rt h => by
      cases h
      obtain ⟨h2, h3, h4⟩ := ih.2 _ _ rfl
      exact ⟨by omega, fun z hz => by have := h3 z hz; omega, h4⟩⟩
  | half _ h1 _ hz ih => exact ⟨ih.1, fun r rt h => by cases h; exact snoc hz h1 (ih.2 _ _ rfl)⟩
  | full _ h1 _ _ hz ih => exact ⟨ih.1, fun r rt h => by cases h; exact snoc hz h1 (ih.2 _ _ rfl)⟩
  | out _ h2 h3 ih =>
    obtain ⟨⟨a1, a2⟩, a3⟩ := ih
    obtain ⟨b1, b2, b3⟩ := a3 _ _ rfl
    refine ⟨⟨by rw [List.length_append, a1]; rfl, fun j y hy => ?_⟩, fun r rt h => by cases h⟩
    rcases get_snoc hy with hy | ⟨rfl, rfl⟩
    · exact a2 j y hy
    · exact ⟨by rw [a1, ← h2], b2, b3⟩
theorem Gf.n {k P Q : Nat} {non : Bool} {r : Nat} {gs ns : List Ls} (h : Gf k P Q non r gs ns) : NsG k ns.length ns ∧ ns.length ≤ 8 := by
  induction h with
  | start h =>
    have := h.n.1
    rw [this.len]
    exact ⟨this, h.lt.1⟩
  | stub _ _ _ _ ih => exact ih
/-- What the edges of Graph's map are like. -/
structure EdG (k : Int) (e : Eg) : Prop where
  kd : e.f.k = 1 ∨ e.f.k = 2
  up : e.f.k = 1 → 1 ≤ e.c
  dn : e.f.k = 2 → e.c = 0 ∧ e.t.k = 1 ∧ e.d = e.f.i + e.t.i ∧ e.f.i % 256 = 0 ∧ 25856 ≤ e.f.i
  to : e.t.k = 1 → 1 ≤ e.t.i ∧ e.t.i ≤ k
theorem Mde.find {n : Int} {P Q : Nat} {non : Bool} {l : List Ls} (h : Mde n P Q non l) {v : Vt} {x : Ls} (hx : findL l v = some x) : (v.k = 1 ∧ 1 ≤ v.i ∧ v.i ≤ 1 + n % 6 ∧ x.rt = [] ∧ ∀ q ∈ x.lk, LkG (1 + n % 6) v.i q) ∨ (v.k = 2 ∧ x.lk = [] ∧ v.i % 256 = 0 ∧ 25856 ≤ v.i ∧ ∀ z ∈ x.rt, 1 ≤ z ∧ z ≤ 1 + n % 6) := by
  obtain ⟨k, gs, ns, hk, rfl, hf⟩ := h.ex
  obtain ⟨h1, h2, h3, h4⟩ := find_is hx
  unfold isV at h3
  rw [Bool.or_eq_true, Bool.and_eq_true, Bool.and_eq_true, Bool.and_eq_true] at h3
  rcases List.mem_append.1 h1 with h1 | h1
  · obtain ⟨j, hj⟩ := List.mem_iff_getElem?.1 h1
    obtain ⟨e1, e2⟩ := hf.g.el j x hj
    have hjl := (List.getElem?_eq_some_iff.1 hj).1
    have hl := hf.g.len
    have hxk : x.kind = 1 := by rw [e1]
    have hxi : x.id = (j : Int) + 1 := by rw [e1]
    rcases h3 with ⟨a, _, _⟩ | ⟨_, a⟩
    · have a := of_decide_eq_true a
      refine .inl ⟨a, by omega, by omega, by rw [e1], ?_⟩
      rw [← h4, hxi, ← hk]
      exact e2
    · have a := of_decide_eq_true a
      omega
  · obtain ⟨j, hj⟩ := List.mem_iff_getElem?.1 h1
    obtain ⟨e1, e2, _⟩ := hf.n.1.el j x hj
    have hxk : x.kind = 2 := by rw [e1]
    have hxi : x.id = 256 * (101 + (j : Int)) := by rw [e1]
    rcases h3 with ⟨_, a, _⟩ | ⟨a, _⟩
    · have a := of_decide_eq_true a
      omega
    · have a := of_decide_eq_true a
      refine .inr ⟨a, by rw [e1], by omega, by omega, ?_⟩
      rw [← hk]
      exact e2
theorem Mde.edge {n : Int} {P Q : Nat} {non : Bool} {l : List Ls} (h : Mde n P Q non l) {e : Eg} (he : e ∈ (mapL l).es) : EdG (1 + n % 6) e := by
  cases map_how he with
  | rr x y q h1 h2 h3 h4 h5 h6 h7 =>
    rcases h.find h1 with ⟨a1, _, _, _, a5⟩ | ⟨_, a2, _⟩
    · have hq := a5 q h2
      refine ⟨.inl a1, fun _ => by rw [h6]; exact hq.pos, fun a => by omega, fun _ => ?_⟩
      rcases h.find h5 with ⟨_, b1, b2, _⟩ | ⟨b1, _⟩
      · exact ⟨b1, b2⟩
      · rw [h4] at b1; cases b1
    · rw [a2] at h2; cases h2
  | rn x y q h1 h2 h3 h4 h5 h6 h7 h8 =>
    rcases h.find h1 with ⟨a1, _, _, _, a5⟩ | ⟨_, a2, _⟩
    · have hq := a5 q h2
      exact ⟨.inl a1, fun _ => by rw [h7]; exact hq.pos, fun a => by omega, fun a => by rw [h4] at a; cases a⟩
    · rw [a2] at h2; cases h2
  | nr x y q h1 h2 h3 h4 h5 h6 h7 =>
    rcases h.find h1 with ⟨_, _, _, a4, _⟩ | ⟨a1, a2, a3, a4, a5⟩
    · rw [a4] at h3; cases h3
    · obtain ⟨q1, q2, q3⟩ := back_is h5
      rcases h.find h4 with ⟨_, b1, b2, _, b5⟩ | ⟨b1, _⟩
      · have hq := b5 q q1
        have hd : q.d = q.i + e.t.i := by
          rcases hq.kd with ⟨c, _⟩ | ⟨_, c, _⟩ | ⟨c, _⟩
          · omega
          · exact c
          · omega
        exact ⟨.inr a1, fun a => by omega, fun _ => ⟨h6, h2, by rw [h7, hd, q3], a3, a4⟩, fun _ => ⟨b1, b2⟩⟩
      · omega
end Go.Proofs.Ytmocggibcniggaa.Kt
namespace Go.Proofs.Ytmocggibcniggaa.Kt
open Go Kw Go.Proofs
set_option maxHeartbeats 4000000
set_option maxRecDepth 100000
/-! ### who goes on comes nearer -/
/-- Who is next, behind a look through the edges. -/
def nxF (es : List Eg) (D : Int) : Int := es.foldl (fun a e => if e.f.k = 2 ∧ e.d = D then e.t.i else a) D
theorem getD_at {t : List Nd} {i : Nat} {n : Nd} (h : t[i]? = some n) : t.getD i zNd = n := by rw [List.getD_eq_getElem?_getD, h]; rfl
section
variable {n : Int} {P Q : Nat} {non : Bool} {l : List Ls}
structure HopOk (l : List Ls) (t : List Nd) (i : Nat) (m : Nat) (g : Nd) : Prop where
  lt : m < dep t i i
  gt : t[anc t i m]? = some g
  vs : g.v ∈ (mapL l).vs
  kd : g.v.k = 1
  c : 1 ≤ g.c
  nx : nxF (mapL l).es (hopF t i).2 = g.v.i
end
end Go.Proofs.Ytmocggibcniggaa.Kt
namespace Go.Proofs.Ytmocggibcniggaa.Kt
open Go Kw Go.Proofs
set_option maxHeartbeats 4000000
set_option maxRecDepth 100000
/-! ### a row of routers: its trees -/
/-- Routers 1 to n in a row; cs j is what the link from j to j + 1 costs, either way; up j its Data at j, dn j the other link's; St j: the stubs of j. -/
structure RowL (n : Nat) (cs up dn : Nat → Int) (St : Nat → Lk → Prop) (gs : List Ls) : Prop where
  len : gs.length = n
  el : ∀ (j : Nat) (x : Ls), gs[j]? = some x → x = ⟨0, 1, (j : Int) + 1, (j : Int) + 1, 0, 0, 0, 0, x.lk, 0, [], []⟩ ∧ x.lk.length ≤ 100 ∧
    (∀ q ∈ x.lk, (q.k = 1 ∧ j + 1 < n ∧ q.i = (j : Int) + 2 ∧ q.c = cs j ∧ q.d = up j) ∨ (q.k = 1 ∧ 0 < j ∧ q.i = (j : Int) ∧ q.c = cs (j - 1) ∧ q.d = dn j) ∨ (q.k = 3 ∧ St j q)) ∧
    (j + 1 < n → ∃ q ∈ x.lk, q.k = 1 ∧ q.i = (j : Int) + 2) ∧ (0 < j → ∃ q ∈ x.lk, q.k = 1 ∧ q.i = (j : Int)) ∧ (∀ q, St j q → q ∈ x.lk ∧ q.k = 3)
def prs (cs : Nat → Int) : Nat → Int
  | 0 => 0
  | j + 1 => prs cs j + cs j
theorem find_foldY {v : Vt} : ∀ {l : List Ls} {m : Option Ls}, (m.isSome = true ∨ ∃ x ∈ l, x.age < 3600 ∧ isV v x = true ∧ x.id = v.i) → (l.foldl (fdS v) m).isSome = true
  | [], m, h => by
    rcases h with h | ⟨x, hx, _⟩
    · exact h
    · cases hx
  | y :: l, m, h => by
    rw [List.foldl_cons]
    refine find_foldY ?_
    by_cases hm : (fdS v m y).isSome = true
    · exact .inl hm
    · right
      have hmn : m = none := by
        cases m with
        | none => rfl
        | some z =>
          unfold fdS at hm
          split at hm <;> exact absurd rfl hm
      subst hmn
      rcases h with h | ⟨x, hx, h1, h2, h3⟩
      · cases h
      · rcases List.mem_cons.1 hx with rfl | hx
        · exfalso
          apply hm
          unfold fdS
          rw [if_pos (by simp [h1, h2, h3])]
          rfl
        · exact ⟨x, hx, h1, h2, h3⟩
theorem find_any {l : List Ls} {v : Vt} {x : Ls} (hx : x ∈ l) (h1 : x.age < 3600) (h2 : isV v x = true) (h3 : x.id = v.i) : ∃ y, findL l v = some y :=
  Option.isSome_iff_exists.1 (find_foldY (.inr ⟨x, hx, h1, h2, h3⟩))
section
variable {n : Nat} {cs up dn : Nat → Int} {St : Nat → Lk → Prop} {gs : List Ls}
theorem RowL.find (h : RowL n cs up dn St gs) {v : Vt} {x : Ls} (hx : findL gs v = some x) : ∃ j : Nat, gs[j]? = some x ∧ v = ⟨1, (j : Int) + 1⟩ ∧ j < n := by
  obtain ⟨h1, _, h3, h4⟩ := find_is hx
  obtain ⟨j, hj⟩ := List.mem_iff_getElem?.1 h1
  have hjl := (List.getElem?_eq_some_iff.1 hj).1
  obtain ⟨h5, _⟩ := h.el j x hj
  refine ⟨j, hj, ?_, by rw [← h.len]; exact hjl⟩
  rw [h5] at h3 h4
  unfold isV at h3
  cases v with
  | mk vk vi =>
    simp only [Bool.or_eq_true, Bool.and_eq_true, decide_eq_true_eq] at h3 h4
    rcases h3 with ⟨h3, _⟩ | ⟨_, h3⟩
    · rw [h3, ← h4]
    · exact absurd h3 (by decide)
theorem RowL.find_at (h : RowL n cs up dn St gs) {j : Nat} (hj : j < n) : ∃ x, gs[j]? = some x ∧ findL gs ⟨1, (j : Int) + 1⟩ = some x := by
  obtain ⟨x, hx⟩ : ∃ x, gs[j]? = some x := ⟨_, List.getElem?_eq_getElem (by rw [h.len]; exact hj)⟩
  obtain ⟨h5, _⟩ := h.el j x hx
  obtain ⟨y, hy⟩ := find_any (v := ⟨1, (j : Int) + 1⟩) (List.mem_of_getElem? hx) (by rw [h5]; show (0 : Int) < 3600; decide) (by rw [h5]; simp [isV]) (by rw [h5])
  obtain ⟨j', h1, h2, _⟩ := h.find hy
  have : j' = j := by
    have := congrArg Vt.i h2
    simp only at this
    omega
  subst this
  rw [hx] at h1
  cases h1
  exact ⟨x, hx, hy⟩
theorem RowL.verts (h : RowL n cs up dn St gs) {v : Vt} : v ∈ vertsL gs ↔ ∃ j : Nat, j < n ∧ v = ⟨1, (j : Int) + 1⟩ := by
  rw [verts_mem]
  constructor
  · rintro ⟨x, hx, _, h2⟩
    obtain ⟨j, hj⟩ := List.mem_iff_getElem?.1 hx
    have hjl := (List.getElem?_eq_some_iff.1 hj).1
    obtain ⟨h5, _⟩ := h.el j x hj
    refine ⟨j, by rw [← h.len]; exact hjl, ?_⟩
    rw [h5] at h2
    rcases h2 with ⟨_, _, h2⟩ | ⟨h2, _⟩
    · exact h2
    · exact absurd h2 (by show ¬ (1 : Int) = 2; decide)
  · rintro ⟨j, hj, rfl⟩
    obtain ⟨x, hx, _⟩ := h.find_at hj
    obtain ⟨h5, _⟩ := h.el j x hx
    refine ⟨x, List.mem_of_getElem? hx, by rw [h5]; show (0 : Int) < 3600; decide, .inl ⟨by rw [h5], by rw [h5], by rw [h5]⟩⟩
theorem RowL.few (h : RowL n cs up dn St gs) (hn : n ≤ 1000) : Few gs := by
  refine ⟨by rw [h.len]; exact hn, fun x hx => ?_, fun x hx => ?_⟩
  · obtain ⟨j, hj⟩ := List.mem_iff_getElem?.1 hx
    have := (h.el j x hj).2.1
    omega
  · obtain ⟨j, hj⟩ := List.mem_iff_getElem?.1 hx
    rw [(h.el j x hj).1]; exact Nat.zero_le _
/-- An edge leads to a neighbour. -/
theorem RowL.edge (h : RowL n cs up dn St gs) {e : Eg} (he : e ∈ (mapL gs).es) : ∃ j : Nat, j < n ∧ e.f = ⟨1, (j : Int) + 1⟩ ∧ ((j + 1 < n ∧ e.t = ⟨1, (j : Int) + 2⟩ ∧ e.c = cs j ∧ e.d = up j) ∨ (0 < j ∧ e.t = ⟨1, (j : Int)⟩ ∧ e.c = cs (j - 1) ∧ e.d = dn j)) := by
  cases map_how he with
  | rr x y q h1 h2 h3 h4 h5 h6 h7 =>
    obtain ⟨j, hj, hv, hjn⟩ := h.find h1
    obtain ⟨_, _, e3, _⟩ := h.el j x hj
    refine ⟨j, hjn, hv, ?_⟩
    rcases e3 q h2 with ⟨_, a, b, c, d⟩ | ⟨_, a, b, c, d⟩ | ⟨a, _⟩
    · exact .inl ⟨a, by rw [h4, b], by rw [h6, c], by rw [h7, d]⟩
    · exact .inr ⟨a, by rw [h4, b], by rw [h6, c], by rw [h7, d]⟩
    · omega
  | rn x y q h1 h2 h3 h4 h5 h6 h7 h8 =>
    obtain ⟨j, hj, hv, hjn⟩ := h.find h5
    rw [h4] at hv
    cases hv
  | nr x y q h1 h2 h3 h4 h5 h6 h7 =>
    obtain ⟨j, hj, hv, hjn⟩ := h.find h1
    obtain ⟨e1, _⟩ := h.el j x hj
    rw [e1] at h3
    cases h3
theorem RowL.edge_up (h : RowL n cs up dn St gs) {j : Nat} (hj : j + 1 < n) : (∃ e ∈ (mapL gs).es, e.f = ⟨1, (j : Int) + 1⟩ ∧ e.t = ⟨1, (j : Int) + 2⟩) ∧ (∃ e ∈ (mapL gs).es, e.f = ⟨1, (j : Int) + 2⟩ ∧ e.t = ⟨1, (j : Int) + 1⟩) := by
  obtain ⟨x, hx, hfx⟩ := h.find_at (j := j) (by omega)
  obtain ⟨y, hy, hfy⟩ := h.find_at hj
  rw [show (((j + 1 : Nat) : Int) + 1) = (j : Int) + 2 by omega] at hfy
  obtain ⟨_, _, _, g6, _⟩ := h.el j x hx
  obtain ⟨_, _, _, _, g7, _⟩ := h.el (j + 1) y hy
  obtain ⟨q, hq1, hq2, hq3⟩ := g6 hj
  obtain ⟨r, hr1, hr2, hr3⟩ := g7 (by omega)
  have hr3 : r.i = (j : Int) + 1 := by omega
  have mk : ∀ {u v : Int} {x y : Ls} {q r : Lk}, (⟨1, u⟩ : Vt) ∈ vertsL gs → findL gs ⟨1, u⟩ = some x → findL gs ⟨1, v⟩ = some y → q ∈ x.lk → q.k = 1 → q.i = v → r ∈ y.lk → r.k = 1 → r.i = u → ∃ e ∈ (mapL gs).es, e.f = ⟨1, u⟩ ∧ e.t = ⟨1, v⟩ := by
    intro u v x y q r hu hx hy a1 a2 a3 b1 b2 b3
    refine ⟨⟨⟨1, u⟩, ⟨1, q.i⟩, q.c, q.d⟩, List.mem_flatMap.2 ⟨⟨1, u⟩, hu, ?_⟩, rfl, by rw [a3]⟩
    unfold fromL
    rw [hx]
    refine List.mem_append_left _ (List.mem_flatMap.2 ⟨q, a1, List.mem_append_left _ ?_⟩)
    have hb : (backL y.lk 1 u).isSome = true := by
      unfold backL
      rw [List.find?_isSome]
      exact ⟨r, b1, by unfold bkP; rw [b2, b3]; simp⟩
    unfold edK1
    rw [eqB_eq, a2, a3, hy]
    simp [hb]
  exact ⟨mk (h.verts.2 ⟨j, by omega, rfl⟩) hfx hfy hq1 hq2 hq3 hr1 hr2 hr3, mk (h.verts.2 ⟨j + 1, hj, by congr 1⟩) hfy hfx hr1 hr2 hr3 hq1 hq2 hq3⟩
end
def dst (cs : Nat → Int) (r j : Nat) : Int := if r ≤ j then prs cs j - prs cs r else prs cs r - prs cs j
theorem dst_self (cs : Nat → Int) (r : Nat) : dst cs r r = 0 := by unfold dst; rw [if_pos (Nat.le_refl r)]; omega
theorem dst_step {cs : Nat → Int} {n r : Nat} (hc : ∀ j, j + 1 < n → 1 ≤ cs j ∧ cs j ≤ 256) {j : Nat} (hj : j + 1 < n) (hr : r < n) : (r ≤ j → dst cs r (j + 1) = dst cs r j + cs j) ∧ (j < r → dst cs r j = dst cs r (j + 1) + cs j) := by
  have e : prs cs (j + 1) = prs cs j + cs j := rfl
  unfold dst
  constructor
  · intro h
    rw [if_pos h, if_pos (by omega), e]
    omega
  · intro h
    rw [if_neg (by omega)]
    by_cases h1 : r ≤ j + 1
    · have : r = j + 1 := by omega
      subst this
      rw [if_pos (Nat.le_refl _), e]
      omega
    · rw [if_neg h1, e]
      omega
section
variable {n : Nat} {cs up dn : Nat → Int} {St : Nat → Lk → Prop} {gs : List Ls} {r : Nat} {t : List Nd}
theorem RowL.costs (h : RowL n cs up dn St gs) (hc : ∀ j, j + 1 < n → 1 ≤ cs j ∧ cs j ≤ 256) : ∀ e ∈ (mapL gs).es, 0 ≤ e.c ∧ e.c ≤ 1000000 := fun e he => by
  obtain ⟨j, hj, _, (⟨a, _, b, _⟩ | ⟨a, _, b, _⟩)⟩ := h.edge he
  · have := hc j a; omega
  · have := hc (j - 1) (by omega); omega
/-- Each of the row is in the tree, at what lies between. -/
theorem RowL.at_ (h : RowL n cs up dn St gs) (hc : ∀ j, j + 1 < n → 1 ≤ cs j ∧ cs j ≤ 256) (hn : n ≤ 1000) (hr : r < n) (hT : Tr gs ⟨1, (r : Int) + 1⟩ t) : ∀ j, j < n → ∃ (a : Nat) (x : Nd), t[a]? = some x ∧ x.v = ⟨1, (j : Int) + 1⟩ ∧ x.c = dst cs r j := by
  have hes := h.costs hc
  have up1 : ∀ (j : Nat), j < n → ∃ (a : Nat) (x : Nd), t[a]? = some x ∧ x.v = ⟨1, (j : Int) + 1⟩ ∧ x.c ≤ dst cs r j := by
    have hstep : ∀ {u v : Int} {e : Eg}, e ∈ (mapL gs).es → e.f = ⟨1, u⟩ → e.t = ⟨1, v⟩ → (∃ (a : Nat) (x : Nd), t[a]? = some x ∧ x.v = ⟨1, u⟩) → ∀ {C}, (∃ (a : Nat) (x : Nd), t[a]? = some x ∧ x.v = ⟨1, u⟩ ∧ x.c ≤ C) → ∃ (a : Nat) (x : Nd), t[a]? = some x ∧ x.v = ⟨1, v⟩ ∧ x.c ≤ C + e.c := by
      rintro u v e he e1 e2 _ C ⟨a, x, hx, hxv, hxc⟩
      have hpa : placeL t e.f = some a := by rw [e1, ← hxv]; exact hT.gr.place hx
      obtain ⟨b, hb⟩ := closed hT.en he hpa
      obtain ⟨y, hy, hyv⟩ := placeL_some hb
      have := hT.gr.short soon_cheap (C := 1000000) hT.zero hT.len (by omega) hes he hx (hxv.trans e1.symm) hy hyv
      exact ⟨b, y, hy, by rw [hyv, e2], by omega⟩
    have hi : ∀ d, r + d < n → ∃ (a : Nat) (x : Nd), t[a]? = some x ∧ x.v = ⟨1, ((r + d : Nat) : Int) + 1⟩ ∧ x.c ≤ dst cs r (r + d) := by
      intro d
      induction d with
      | zero => intro _; exact ⟨0, _, hT.hd, rfl, by rw [Nat.add_zero, dst_self]; exact Int.le_refl _⟩
      | succ d ih =>
        intro hd
        obtain ⟨a, x, h1, h2, h3⟩ := ih (by omega)
        obtain ⟨⟨e, he, e1, e2⟩, _⟩ := h.edge_up (j := r + d) (by omega)
        obtain ⟨b, y, k1, k2, k3⟩ := hstep he e1 e2 ⟨a, x, h1, h2⟩ ⟨a, x, h1, h2, h3⟩
        have hec : e.c = cs (r + d) := by
          obtain ⟨j, hj, f1, f2⟩ := h.edge he
          rw [e1] at f1
          have := congrArg Vt.i f1
          simp only at this
          have hj' : j = r + d := by omega
          subst hj'
          rcases f2 with ⟨_, _, f3, _⟩ | ⟨_, f3, _⟩
          · exact f3
          · rw [e2] at f3; have := congrArg Vt.i f3; simp only at this; omega
        refine ⟨b, y, k1, by rw [k2]; congr 1, ?_⟩
        have := (dst_step hc (r := r) (j := r + d) (by omega) hr).1 (by omega)
        rw [show r + (d + 1) = r + d + 1 by omega, this, ← hec]
        exact k3
    have lo : ∀ d, d ≤ r → ∃ (a : Nat) (x : Nd), t[a]? = some x ∧ x.v = ⟨1, ((r - d : Nat) : Int) + 1⟩ ∧ x.c ≤ dst cs r (r - d) := by
      intro d
      induction d with
      | zero => intro _; exact ⟨0, _, hT.hd, rfl, by rw [Nat.sub_zero, dst_self]; exact Int.le_refl _⟩
      | succ d ih =>
        intro hd
        obtain ⟨a, x, h1, h2, h3⟩ := ih (by omega)
        obtain ⟨_, ⟨e, he, e1, e2⟩⟩ := h.edge_up (j := r - (d + 1)) (by omega)
        have h2' : x.v = ⟨1, ((r - (d + 1) : Nat) : Int) + 2⟩ := by rw [h2]; congr 1; omega
        obtain ⟨b, y, k1, k2, k3⟩ := hstep he e1 e2 ⟨a, x, h1, h2'⟩ ⟨a, x, h1, h2', h3⟩
        have hec : e.c = cs (r - (d + 1)) := by
          obtain ⟨j, hj, f1, f2⟩ := h.edge he
          rw [e1] at f1
          have := congrArg Vt.i f1
          simp only at this
          have hj' : j = r - (d + 1) + 1 := by omega
          subst hj'
          rcases f2 with ⟨_, f3, _⟩ | ⟨_, _, f3, _⟩
          · rw [e2] at f3; have := congrArg Vt.i f3; simp only at this; omega
          · rw [f3]; rfl
        refine ⟨b, y, k1, k2, ?_⟩
        have := (dst_step hc (r := r) (j := r - (d + 1)) (by omega) hr).2 (by omega)
        rw [this, ← hec, show r - (d + 1) + 1 = r - d by omega]
        exact k3
    intro j hj
    rcases Nat.le_total r j with h1 | h1
    · have := hi (j - r) (by omega)
      rwa [show r + (j - r) = j by omega] at this
    · have := lo (r - j) (by omega)
      rwa [show r - (r - j) = j by omega] at this
  -- from below
  have lw : ∀ (a : Nat) (x : Nd), t[a]? = some x → ∀ (j : Nat), x.v = ⟨1, (j : Int) + 1⟩ → j < n → dst cs r j ≤ x.c := by
    intro a
    induction a using Nat.strongRecOn with
    | _ a ih =>
      intro x hx j hv hj
      rcases Nat.eq_zero_or_pos a with rfl | ha
      · rw [hT.hd] at hx
        cases hx
        have := congrArg Vt.i hv
        have this : ((r : Int) + 1) = (j : Int) + 1 := this
        have hrj : j = r := by omega
        subst hrj
        rw [dst_self]
        exact Int.le_refl _
      · obtain ⟨e, he, p, y, hp, hy, hyv, het, _, hcn, _, _⟩ := hT.gr.edge ha hx
        obtain ⟨i, hi, f1, f2⟩ := h.edge he
        have h1 := ih p hp y hy i (by rw [hyv, f1]) hi
        obtain ⟨c1, c2⟩ := hT.gr.cost (C := 1000000) hT.zero hT.len (by omega) hes p y hy
        obtain ⟨c3, c4⟩ := hes e he
        have hpl := (List.getElem?_eq_some_iff.1 hy).1
        have hl := hT.len
        rw [hcn, wr_i64 (by omega) (by omega)]
        rw [hv] at het
        rcases f2 with ⟨g1, g2, g3, _⟩ | ⟨g1, g2, g3, _⟩
        · rw [het] at g2
          have := congrArg Vt.i g2
          simp only at this
          have hji : j = i + 1 := by omega
          subst hji
          have hs := dst_step hc (r := r) g1 hr
          have := hc i g1
          rcases Nat.lt_or_ge i r with hlt | hge
          · have := hs.2 hlt; omega
          · have := hs.1 hge; omega
        · rw [het] at g2
          have := congrArg Vt.i g2
          simp only at this
          have hji : i = j + 1 := by omega
          subst hji
          have g3 : e.c = cs j := g3
          have hs := dst_step hc (r := r) hi hr
          have := hc j hi
          rcases Nat.lt_or_ge j r with hlt | hge
          · have := hs.2 hlt; omega
          · have := hs.1 hge; omega
  intro j hj
  obtain ⟨a, x, h1, h2, h3⟩ := up1 j hj
  exact ⟨a, x, h1, h2, Int.le_antisymm h3 (lw a x h1 j h2 hj)⟩
/-- Who stands behind the root has its parent one step nearer. -/
theorem RowL.par_up (h : RowL n cs up dn St gs) (hc : ∀ j, j + 1 < n → 1 ≤ cs j ∧ cs j ≤ 256) (hn : n ≤ 1000) (hr : r < n) (hT : Tr gs ⟨1, (r : Int) + 1⟩ t) {a : Nat} {x : Nd} (hx : t[a]? = some x) {j : Nat} (hj : j + 1 < n) (hrj : r ≤ j) (hv : x.v = ⟨1, (j : Int) + 2⟩) : 0 < a ∧ ∃ y, t[par t a]? = some y ∧ y.v = ⟨1, (j : Int) + 1⟩ ∧ x.p = par t a ∧ x.d = up j := by
  have hes := h.costs hc
  have ha : 0 < a := by
    rcases Nat.eq_zero_or_pos a with rfl | ha
    · rw [hT.hd] at hx; cases hx
      have := congrArg Vt.i hv
      have this : ((r : Int) + 1) = (j : Int) + 2 := this
      omega
    · exact ha
  obtain ⟨e, he, p, y, hp, hy, hyv, het, hxp, hcn, hxd, _⟩ := hT.gr.edge ha hx
  have hpar := (par_at hT.tre ha hx).1
  have hpp : par t a = p := by omega
  refine ⟨ha, y, by rw [hpp]; exact hy, ?_, hpar, ?_⟩
  all_goals
    obtain ⟨i, hi, f1, f2⟩ := h.edge he
    obtain ⟨a1, x1, k1, k2, k3⟩ := h.at_ hc hn hr hT (j + 1) hj
    have : a1 = a := hT.gr.inj k1 hx (by rw [k2, hv]; congr 1)
    subst this
    rw [hx] at k1
    cases k1
    obtain ⟨a2, x2, m1, m2, m3⟩ := h.at_ hc hn hr hT i hi
    have : a2 = p := hT.gr.inj m1 hy (by rw [m2, hyv, f1])
    subst this
    rw [hy] at m1
    cases m1
    obtain ⟨c1, c2⟩ := hT.gr.cost (C := 1000000) hT.zero hT.len (by omega) hes a2 y hy
    obtain ⟨c3, c4⟩ := hes e he
    have hpl := (List.getElem?_eq_some_iff.1 hy).1
    have hl := hT.len
    rw [wr_i64 (by omega) (by omega)] at hcn
    rw [hv] at het
    have hij : i = j := by
      rcases f2 with ⟨g1, g2, g3, _⟩ | ⟨g1, g2, g3, _⟩
      · rw [het] at g2
        have := congrArg Vt.i g2
        simp only at this
        omega
      · rw [het] at g2
        have := congrArg Vt.i g2
        simp only at this
        have hi2 : i = j + 2 := by omega
        subst hi2
        have hs := (dst_step hc (r := r) (j := j + 1) (by omega) hr).1 (by omega)
        have hs2 := hc (j + 1) (by omega)
        have g3 : e.c = cs (j + 1) := g3
        have hs : dst cs r (j + 2) = dst cs r (j + 1) + cs (j + 1) := hs
        omega
    subst hij
  · rw [hyv, f1]
  · rcases f2 with ⟨_, _, _, g4⟩ | ⟨g1, g2, _, _⟩
    · rw [hxd, g4]
    · rw [het] at g2
      have := congrArg Vt.i g2
      simp only at this
      omega
/-- The way back. -/
theorem RowL.anc_up (h : RowL n cs up dn St gs) (hc : ∀ j, j + 1 < n → 1 ≤ cs j ∧ cs j ≤ 256) (hn : n ≤ 1000) (hr : r < n) (hT : Tr gs ⟨1, (r : Int) + 1⟩ t) {a : Nat} {x : Nd} (hx : t[a]? = some x) {j : Nat} (hj : j < n) (hrj : r ≤ j) (hv : x.v = ⟨1, (j : Int) + 1⟩) : ∀ m, m ≤ j - r → ∃ y, t[anc t a m]? = some y ∧ y.v = ⟨1, ((j - m : Nat) : Int) + 1⟩ := by
  intro m
  induction m with
  | zero => intro _; exact ⟨x, hx, hv⟩
  | succ m ih =>
    intro hm
    obtain ⟨y, hy, hyv⟩ := ih (by omega)
    obtain ⟨_, z, hz, hzv, _⟩ := h.par_up hc hn hr hT hy (j := j - (m + 1)) (by omega) (by omega) (by rw [hyv]; congr 1; omega)
    exact ⟨z, hz, hzv⟩
theorem RowL.dp (h : RowL n cs up dn St gs) (hc : ∀ j, j + 1 < n → 1 ≤ cs j ∧ cs j ≤ 256) (hn : n ≤ 1000) (hr : r < n) (hT : Tr gs ⟨1, (r : Int) + 1⟩ t) {a : Nat} {x : Nd} (hx : t[a]? = some x) {j : Nat} (hj : j < n) (hrj : r ≤ j) (hv : x.v = ⟨1, (j : Int) + 1⟩) : dep t a a = j - r := by
  have hal := (List.getElem?_eq_some_iff.1 hx).1
  obtain ⟨d1, d2⟩ := dep_spec hT.tre (Nat.le_refl a) hal
  have hA := h.anc_up hc hn hr hT hx hj hrj hv
  have h1 : anc t a (j - r) = 0 := by
    obtain ⟨y, hy, hyv⟩ := hA (j - r) (Nat.le_refl _)
    exact hT.gr.inj hy hT.hd (by rw [hyv]; show _ = (⟨1, (r : Int) + 1⟩ : Vt); congr 1; omega)
  have h2 : ¬ j - r < dep t a a := fun hlt => by have := d2 _ hlt; omega
  have h3 : ¬ dep t a a < j - r := fun hlt => by
    obtain ⟨y, hy, hyv⟩ := hA (dep t a a) (by omega)
    rw [d1, hT.hd] at hy
    cases hy
    have := congrArg Vt.i hyv
    have this : ((r : Int) + 1) = ((j - dep t a a : Nat) : Int) + 1 := this
    omega
  omega
/-- The first hop along a row. -/
theorem RowL.hop (h : RowL n cs up dn St gs) (hc : ∀ j, j + 1 < n → 1 ≤ cs j ∧ cs j ≤ 256) (hn : n ≤ 1000) (hr : r < n) (hT : Tr gs ⟨1, (r : Int) + 1⟩ t) {a : Nat} {x : Nd} (hx : t[a]? = some x) {j : Nat} (hj : j < n) (hrj : r ≤ j) (hv : x.v = ⟨1, (j : Int) + 1⟩) : hopF t a = if r = j then (0, 0) else (up r, (r : Int) + 2) := by
  have hd := h.dp hc hn hr hT hx hj hrj hv
  unfold hopF
  rw [hd]
  by_cases h0 : r = j
  · rw [if_pos (by omega), if_pos h0]
  · rw [if_neg (by omega), if_neg h0]
    obtain ⟨y, hy, hyv⟩ := h.anc_up hc hn hr hT hx hj hrj hv (j - r - 1) (by omega)
    have hyv : y.v = ⟨1, (r : Int) + 2⟩ := by rw [hyv]; congr 1; omega
    obtain ⟨_, _, _, _, _, hyd⟩ := h.par_up hc hn hr hT hy (j := r) (by omega) (Nat.le_refl _) hyv
    rw [getD_at hy, hyv, if_pos rfl, hyd]
end
end Go.Proofs.Ytmocggibcniggaa.Kt
namespace Go.Proofs.Ytmocggibcniggaa.Kt
open Go Kw Go.Proofs
attribute [local irreducible] Kw.GI Kw.GR Kw.FnR Kw.FnX
set_option maxHeartbeats 8000000
set_option maxRecDepth 100000
theorem in17_ok (l : List Vt) (v : Vt) (hl : l.length < 1000000) : FnR Try.prog 58 [rsV l, v.av] (RB (l.any (fun x => decide (x = v)))) := by
  refine fnR_intro (T := TT) (n := 18) Try.func58 rfl rfl rfl (fun w Z => ?_)
  (repeat (first | refine r_end ?_ | (refine r_op ?_; first | refine r_pure hT rfl rfl rfl rfl rfl rfl ?_ | refine r_box rfl rfl rfl rfl rfl rfl rfl rfl rfl ?_) | refine gi_seq ?_ | refine gi_plain ?_ | refine gi_block ?_))
  refine gi_loop (σ := Nat) (fun j => [(5, I j), (3, .box 0 0), (0, rsV l)]) (fun _ => [hV v]) (fun _ => []) (fun j => j ≤ l.length ∧ (l.take j).any (fun x => decide (x = v)) = false) (fun j => l.length - j) 0 ⟨Nat.zero_le _, rfl⟩ ⟨rfl, rfl, rfl, trivial⟩ ⟨rfl, trivial⟩ trivial (fun _ => rfl) (fun j hj next => ?_)
  obtain ⟨hj, hn⟩ := hj
  (repeat (first | refine r_end ?_ | (refine r_op ?_; refine r_pure hT rfl rfl rfl rfl rfl rfl ?_) | refine gi_seq ?_ | refine gi_plain ?_))
  refine gi_lt (q := ((l.map Vt.row).length : Int)) rfl (fun h3 => ?_) (fun h3 => ?_)
  · rw [List.length_map] at h3
    have hjl : j < l.length := by omega
    obtain ⟨x, hx⟩ : ∃ x, l[j]? = some x := ⟨_, List.getElem?_eq_getElem hjl⟩
    have hat := any_take (fun x => decide (x = v)) hx
    rw [hn, Bool.false_or] at hat
    (repeat (first | refine gi_seq ?_ | refine gi_skip ?_ | refine gi_block ?_))
    refine gi_drawM [] [(0, .p), (1, .p), (2, .p), (3, .t), (4, .t), (5, .p)] [0, 0, 3, 4, 0, 24] [0, 0, 3, 4, 0, 24] hm rfl (by kernel_rfl) (fun w1 K => ?_)
    (repeat ((refine r_op ?_; refine r_pure hT rfl rfl rfl rfl rfl rfl ?_)))
    refine r_idx (row := x.row) hT rfl rfl rfl rfl rfl rfl rfl rfl rfl rfl rfl rfl (by omega) (by simp [hx]) ?_
    (repeat ((refine r_op ?_; refine r_load hT rfl rfl rfl rfl rfl rfl rfl rfl rfl ?_)))
    refine r_eqT _ rfl rfl rfl rfl rfl rfl rfl rfl rfl y_flat_Vt ?_
    (repeat (refine r_end ?_))
    refine gi_cond rfl (fun c4 => ?_) (fun c4 => ?_)
    · rw [veq_eq x v] at c4
      (repeat (first | refine r_end ?_ | (refine r_op ?_; refine r_pure hT rfl rfl rfl rfl rfl rfl ?_) | refine gi_seq ?_ | refine gi_plain ?_))
      refine gi_retW hT Try.func58 rfl rfl [] rfl rfl rfl rfl ?_
      refine ⟨?_, rfl⟩
      rw [List.any_eq_true.2 ⟨x, List.mem_of_getElem? hx, c4⟩]
    · rw [veq_eq x v] at c4
      (repeat (first | refine r_end ?_ | (refine r_op ?_; refine r_pure hT rfl rfl rfl rfl rfl rfl ?_) | refine gi_plain ?_ | refine gi_skip ?_ | refine gi_inBlock ?_))
      refine next (j + 1) _ _ _ ⟨hjl, by rw [hat]; exact c4⟩ (by omega) ⟨?_, rfl, rfl, trivial⟩ ⟨rfl, trivial⟩ trivial
      show some (I (wr .i64 ((j : Int) + 1))) = _
      rw [wr_i64 (by omega) (by omega)]
      simp
  · rw [List.length_map] at h3
    have hjl : j = l.length := by omega
    subst hjl
    rw [List.take_length] at hn
    (repeat (first | refine r_end ?_ | (refine r_op ?_; refine r_pure hT rfl rfl rfl rfl rfl rfl ?_) | refine gi_seq ?_ | refine gi_plain ?_ | refine gi_exit rfl ?_))
    refine gi_retW hT Try.func58 rfl rfl [] rfl rfl rfl rfl ?_
    exact ⟨by rw [hn], rfl⟩
theorem contains_any (l : List Int) (n : Int) : l.contains n = l.any (fun x => decide (x = n)) := by
  rw [Bool.eq_iff_iff, List.contains_iff_mem, List.any_eq_true]
  exact ⟨fun h => ⟨n, h, decide_eq_true rfl⟩, fun ⟨x, h, e⟩ => by rw [← of_decide_eq_true e]; exact h⟩
/-! ### the reference's Reach: the law -/
def cR (q n : Nd) : Int := if q.v.k = 2 ∨ n.v.k = 1 then 1 else 0
theorem cR_b (q n : Nd) : 0 ≤ cR q n ∧ cR q n ≤ 1 := by unfold cR; split <;> omega
theorem cR_eq {q n : Nd} (hq : q.v.k = 1 ∨ q.v.k = 2) : cR q n = cK q n + cP q := by
  unfold cR cK cP
  rcases hq with h | h
  · rw [if_pos h]
    by_cases h2 : n.v.k = 1
    · rw [if_pos (.inr h2), if_pos ⟨h2, h⟩]; rfl
    · rw [if_neg (fun hh => by rcases hh with hh | hh <;> omega), if_neg (fun hh => h2 hh.1)]; rfl
  · rw [if_pos (.inl h), if_neg (fun hh => by have := hh.2; omega), if_neg (show ¬ q.v.k = 1 by omega)]; rfl
structure PInv (t : List Nd) (w : List Int) (ms : List Vt) (i : Nat) (o : List Int) : Prop where
  lo : o.length = t.length
  rng : ∀ (k : Nat) x, i ≤ k → o[k]? = some x → -1 ≤ x ∧ x + k ≤ t.length
  at_ : ∀ k n x, i ≤ k → t[k]? = some n → o[k]? = some x → Val t w ms o k n x
theorem PInv.zero (t : List Nd) (w : List Int) (ms : List Vt) : PInv t w ms t.length (List.replicate t.length 0) where
  lo := by simp
  rng := fun k x hk hx => by have := (List.getElem?_eq_some_iff.1 hx).1; rw [List.length_replicate] at this; omega
  at_ := fun k n x hk hn _ => by have := (List.getElem?_eq_some_iff.1 hn).1; omega
theorem PInv.rch {t : List Nd} {w : List Int} {ms : List Vt} {o : List Int} (h : PInv t w ms 0 o) : Rch t w ms o :=
  ⟨h.lo, fun k x => h.rng k x (Nat.zero_le _), fun k n x => h.at_ k n x (Nat.zero_le _)⟩
/-- The nearest of the kids between i and k. -/
structure EInv (t : List Nd) (o : List Int) (i k : Nat) (n : Nd) (e : Int) : Prop where
  lo : -1 ≤ e
  le : ∀ k' m y, i < k' → k' < k → t[k']? = some m → m.p = i → o[k']? = some y → 0 ≤ y → 0 ≤ e ∧ e ≤ y + cR n m
  or : 0 ≤ e → ∃ k' m y, i < k' ∧ k' < k ∧ t[k']? = some m ∧ m.p = i ∧ o[k']? = some y ∧ 0 ≤ y ∧ e = y + cR n m
section
variable {t : List Nd} {w : List Int} {ms : List Vt} {i k : Nat} {o : List Int} {n m : Nd} {e y : Int}
theorem EInv.zero : EInv t o i (i + 1) n (-1) := ⟨by omega, fun k' _ _ h1 h2 => by omega, fun h => by omega⟩
theorem EInv.skip (h : EInv t o i k n e) (hm : t[k]? = some m) (hy : o[k]? = some y) (hs : m.p ≠ i ∨ y < 0) : EInv t o i (k + 1) n e := by
  refine ⟨h.lo, fun k' m' y' q1 q2 q3 q4 q5 q6 => ?_, fun h0 => ?_⟩
  · rcases Nat.lt_succ_iff_lt_or_eq.1 q2 with q2 | rfl
    · exact h.le k' m' y' q1 q2 q3 q4 q5 q6
    · rw [hm] at q3; cases q3
      rw [hy] at q5; cases q5
      rcases hs with hs | hs
      · exact absurd q4 hs
      · omega
  · obtain ⟨k', m', y', q1, q2, q⟩ := h.or h0
    exact ⟨k', m', y', q1, by omega, q⟩
theorem EInv.add (h : EInv t o i k n e) (hik : i < k) (hm : t[k]? = some m) (hy : o[k]? = some y) (hp : m.p = i) (hy0 : 0 ≤ y) : EInv t o i (k + 1) n (if e < 0 ∨ y + cR n m < e then y + cR n m else e) := by
  have hc := cR_b n m
  refine ⟨by have := h.lo; split <;> omega, fun k' m' y' q1 q2 q3 q4 q5 q6 => ?_, fun h0 => ?_⟩
  · rcases Nat.lt_succ_iff_lt_or_eq.1 q2 with q2 | rfl
    · have := h.le k' m' y' q1 q2 q3 q4 q5 q6
      split <;> omega
    · rw [hm] at q3; cases q3
      rw [hy] at q5; cases q5
      split <;> omega
  · by_cases hh : e < 0 ∨ y + cR n m < e
    · rw [if_pos hh]
      exact ⟨k, m, y, hik, by omega, hm, hp, hy, hy0, rfl⟩
    · rw [if_neg hh] at h0 ⊢
      obtain ⟨k', m', y', q1, q2, q⟩ := h.or h0
      exact ⟨k', m', y', q1, by omega, q⟩
def valP (w : List Int) (ms : List Vt) (n : Nd) (e : Int) : Int := if isW w n = true then 0 else if isMb ms n = true then 1 else e
theorem PInv.step (h : PInv t w ms (i + 1) o) (hn : t[i]? = some n) (hk : n.v.k = 1 ∨ n.v.k = 2) (he : EInv t o i t.length n e) : PInv t w ms i (o.set i (valP w ms n e)) := by
  have hl := (List.getElem?_eq_some_iff.1 hn).1
  have hlo : i < o.length := by rw [h.lo]; exact hl
  have hb : -1 ≤ valP w ms n e ∧ valP w ms n e + i ≤ t.length := by
    unfold valP
    split
    · omega
    split
    · omega
    · by_cases h0 : 0 ≤ e
      · obtain ⟨k', m', y', q1, q2, q3, q4, q5, q6, rfl⟩ := he.or h0
        have := (h.rng k' y' (by omega) q5).2
        have := cR_b n m'
        omega
      · have := he.lo; omega
  refine ⟨by rw [List.length_set]; exact h.lo, fun k x hk hx => ?_, fun k m x hk' hm hx => ?_⟩
  · rcases getS hlo hx with ⟨rfl, rfl⟩ | ⟨hne, hx⟩
    · exact hb
    · exact h.rng k x (by omega) hx
  · rcases getS hlo hx with ⟨rfl, rfl⟩ | ⟨hne, hx⟩
    · rw [hn] at hm; cases hm
      refine ⟨fun h1 => by unfold valP; rw [if_pos h1], fun h1 h2 => by unfold valP; rw [if_neg (by rw [h1]; decide), if_pos h2], fun h1 h2 k' m' y' q1 q3 q4 q5 q6 => ?_, fun h1 h2 h0 => ?_⟩
      · have hv : valP w ms n e = e := by unfold valP; rw [if_neg (by rw [h1]; decide), if_neg (by rw [h2]; decide)]
        rw [List.getElem?_set_ne (by omega)] at q5
        rw [hv, ← cR_eq hk]
        exact he.le k' m' y' q1 (List.getElem?_eq_some_iff.1 q3).1 q3 q4 q5 q6
      · have hv : valP w ms n e = e := by unfold valP; rw [if_neg (by rw [h1]; decide), if_neg (by rw [h2]; decide)]
        rw [hv] at h0 ⊢
        obtain ⟨k', m', y', q1, q2, q3, q4, q5, q6, q7⟩ := he.or h0
        exact ⟨k', m', y', q1, q3, q4, by rw [List.getElem?_set_ne (by omega)]; exact q5, q6, by rw [q7, cR_eq hk]⟩
    · exact (h.at_ k m x (by omega) hm hx).keep (fun j hj => List.getElem?_set_ne (by omega))
end
/-- There is but one answer. -/
theorem Rch.uniq {t : List Nd} {w : List Int} {ms : List Vt} {a b : List Int} (ha : Rch t w ms a) (hb : Rch t w ms b) : a = b := by
  have key : ∀ (j k : Nat) (x y : Int), t.length - k ≤ j → a[k]? = some x → b[k]? = some y → x = y := by
    intro j
    induction j with
    | zero => intro k x y hj hx; have := (List.getElem?_eq_some_iff.1 hx).1; have := ha.lo; omega
    | succ j ih =>
      intro k x y hj hx hy
      have hl := (List.getElem?_eq_some_iff.1 hx).1
      rw [ha.lo] at hl
      obtain ⟨n, hn⟩ : ∃ n, t[k]? = some n := ⟨_, List.getElem?_eq_getElem hl⟩
      have va := ha.at_ k n x hn hx
      have vb := hb.at_ k n y hn hy
      cases hw : isW w n with
      | true => rw [va.wi hw, vb.wi hw]
      | false =>
        cases hm : isMb ms n with
        | true => rw [va.me hw hm, vb.me hw hm]
        | false =>
          have rx := ha.rng k x hx
          have ry := hb.rng k y hy
          have e1 : 0 ≤ x → 0 ≤ y ∧ y ≤ x := fun h0 => by
            obtain ⟨k', m, x', hk, hm', hp, hx', hx1, rfl⟩ := va.or hw hm h0
            obtain ⟨y', hy'⟩ : ∃ y', b[k']? = some y' := ⟨_, List.getElem?_eq_getElem (by rw [hb.lo]; exact (List.getElem?_eq_some_iff.1 hm').1)⟩
            have := ih k' x' y' (by omega) hx' hy'
            subst this
            exact vb.le hw hm k' m x' hk hm' hp hy' hx1
          have e2 : 0 ≤ y → 0 ≤ x ∧ x ≤ y := fun h0 => by
            obtain ⟨k', m, y', hk, hm', hp, hy', hy1, rfl⟩ := vb.or hw hm h0
            obtain ⟨x', hx'⟩ : ∃ x', a[k']? = some x' := ⟨_, List.getElem?_eq_getElem (by rw [ha.lo]; exact (List.getElem?_eq_some_iff.1 hm').1)⟩
            have := ih k' x' y' (by omega) hx' hy'
            subst this
            exact va.le hw hm k' m x' hk hm' hp hx' hy1
          omega
  refine List.ext_getElem? (fun k => ?_)
  by_cases h : k < t.length
  · obtain ⟨x, hx⟩ : ∃ x, a[k]? = some x := ⟨_, List.getElem?_eq_getElem (by rw [ha.lo]; exact h)⟩
    obtain ⟨y, hy⟩ : ∃ y, b[k]? = some y := ⟨_, List.getElem?_eq_getElem (by rw [hb.lo]; exact h)⟩
    rw [hx, hy, key t.length k x y (by omega) hx hy]
  · rw [List.getElem?_eq_none (by rw [ha.lo]; omega), List.getElem?_eq_none (by rw [hb.lo]; omega)]
end Go.Proofs.Ytmocggibcniggaa.Kt
