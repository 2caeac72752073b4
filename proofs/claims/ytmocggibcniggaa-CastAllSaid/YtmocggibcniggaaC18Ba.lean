/- Part of the proofs of this seat's statements: what the functions compute. No condition. -/
import Derived.Test.YtmocggibcniggaaC18Aa
set_option linter.unusedSimpArgs false
set_option linter.unusedVariables false
namespace Go.Proofs.Ytmocggibcniggaa.Kt
open Go Kw Go.Proofs
attribute [local irreducible] Kw.GI Kw.GR Kw.FnR Kw.FnX
set_option maxHeartbeats 8000000
set_option maxRecDepth 100000
/-! ### advertisements that are built: their links are slices of the list's own -/
abbrev Ls.rowO (x : Ls) : List RV := [.v (.int .i64 x.age), .v (.int .i64 x.kind), .v (.int .i64 x.id), .v (.int .i64 x.adv), .v (.int .i64 x.seq), .v (.int .i64 x.sum), .v (.int .i64 x.len), .v (.int .i64 x.fl), .os 54 4 (x.lk.map Lk.row), .v (.int .i64 x.bits), .fs 1 (x.rt.map nRow), .fs 2 (x.vt.map Vt.row)]
abbrev seO (l : List Ls) : SE := ⟨51, 12, l.map Ls.rowO, true⟩
abbrev eO (l : List Ls) : Option SE := some (seO l)
theorem frz_rowO : ∀ (l : List Ls), frzLL (l.map Ls.rowO) = l.map Ls.row
  | [] => by unfold List.map frzLL; rfl
  | x :: l => by
    rw [List.map_cons, List.map_cons]
    unfold frzLL
    rw [frz_rowO l]
    rfl
theorem frz_seO (l : List Ls) : frzE (seO l) = l.map Ls.row := frz_rowO l
/-- With one link more. -/
def Ls.add (x : Ls) (q : Lk) : Ls := { x with lk := x.lk ++ [q] }
theorem rowO_add (x : Ls) (q : Lk) : (x.rowO.set 8 .any).set 8 (.os 54 4 (x.lk.map Lk.row ++ [q.row])) = (x.add q).rowO := by
  show [_, _, _, _, _, _, _, _, _, _, _, _] = _
  unfold Ls.add Ls.rowO
  simp only [List.map_append, List.map_cons, List.map_nil]
theorem eO_link {l : List Ls} {a : Nat} (x : Ls) (q : Lk) (T : Sp) : (some (⟨51, 12, ((l.map Ls.rowO).set a (x.rowO.set 8 .any)).set a ((x.rowO.set 8 .any).set 8 (.os 54 4 (x.lk.map Lk.row ++ [q.row]))), true⟩ : SE) :: T : Sp) = eO (l.set a (x.add q)) :: T := by
  rw [List.set_set, rowO_add, ← List.map_set]
/-! A row that was laid out by a literal. -/
def cellLe (x y : RV) : Prop := ∀ (Y Z : Nat → Prop) (w : World) (u : Value) (f : List Nat), OR Y Z w x u f → OR Y Z w y u f
theorem le_same (x : RV) : cellLe x x := fun _ _ _ _ _ h => h
theorem le_os (e : TypeId) (sz : Nat) : cellLe (.v (.slice none 0 0)) (.os e sz []) := fun Y Z w u f h => by
  have h := (OR_cr (x := .v (.slice none 0 0)) rfl).1 h
  obtain ⟨h1, rfl⟩ := h
  unfold CR at h1
  rw [h1.1]
  exact ⟨[], ⟨by simp, .inl ⟨rfl, rfl⟩⟩, by unfold Kw.Rows; rfl, rfl⟩
theorem le_fs (sz : Nat) : cellLe (.v (.slice none 0 0)) (.fs sz []) := fun Y Z w u f h => by
  have h := (OR_cr (x := .v (.slice none 0 0)) rfl).1 h
  obtain ⟨h1, rfl⟩ := h
  refine (OR_cr rfl).2 ⟨?_, rfl⟩
  unfold CR at h1 ⊢
  exact ⟨none, 0, by simpa using h1.1, Nat.le_refl _, Nat.zero_le _, .inl rfl⟩
def RowLe : List RV → List RV → Prop
  | [], [] => True
  | x :: xs, y :: ys => cellLe x y ∧ RowLe xs ys
  | _, _ => False
theorem RowLe.len : ∀ {xs ys : List RV}, RowLe xs ys → xs.length = ys.length
  | [], [], _ => rfl
  | x :: xs, y :: ys, h => by simp [RowLe.len (xs := xs) (ys := ys) h.2]
  | [], _ :: _, h => h.elim
  | _ :: _, [], h => h.elim
section
variable {Y Z : Nat → Prop} {w : World}
theorem ORL_le : ∀ {xs ys : List RV} {us : List Value} {f : List Nat}, RowLe xs ys → ORL Y Z w xs us f → ORL Y Z w ys us f
  | [], [], us, f, _, h => h
  | x :: xs, y :: ys, us, f, hl, h => by
    unfold ORL at h ⊢
    obtain ⟨u, r, f1, g, h1, h2, h3, h4⟩ := h
    exact ⟨u, r, f1, g, h1, hl.1 _ _ _ _ _ h2, ORL_le (xs := xs) (ys := ys) hl.2 h3, h4⟩
  | [], _ :: _, _, _, h, _ => h.elim
  | _ :: _, [], _, _, h, _ => h.elim
theorem ORows_last {sz : Nat} {r r' : List RV} (hr : RowLe r r') : ∀ {L : List (List RV)} {us : List Value} {f : List Nat}, ORows Y Z w sz (L ++ [r]) us f → ORows Y Z w sz (L ++ [r']) us f
  | [], us, f, h => by
    have h : ORows Y Z w sz [r] us f := h
    show ORows Y Z w sz [r'] us f
    unfold ORows at h ⊢
    obtain ⟨a, b, f1, g, h1, h2, h3, h4, h5⟩ := h
    exact ⟨a, b, f1, g, h1, hr.len.symm.trans h2, ORL_le hr h3, by unfold ORows at h4 ⊢; exact h4, h5⟩
  | c :: L, us, f, h => by
    have h : ORows Y Z w sz (c :: (L ++ [r])) us f := h
    show ORows Y Z w sz (c :: (L ++ [r'])) us f
    unfold ORows at h ⊢
    obtain ⟨a, b, f1, g, h1, h2, h3, h4, h5⟩ := h
    exact ⟨a, b, f1, g, h1, h2, h3, ORows_last hr h4, h5⟩
end
theorem rows_last {e : TypeId} {sz : Nat} {L : List (List RV)} {r r' : List RV} (hr : RowLe r r') : ∀ (Y Z : Nat → Prop) w cs f, RowsE Y Z w ⟨e, sz, L ++ [r], true⟩ cs f → RowsE Y Z w ⟨e, sz, L ++ [r'], true⟩ cs f :=
  fun Y Z w cs f h => by unfold RowsE at h ⊢; exact ORows_last hr h
theorem rows_nest {e : TypeId} {sz : Nat} {L : List (List RV)} : ∀ (Y Z : Nat → Prop) w cs f, RowsE Y Z w ⟨e, sz, L, false⟩ cs f → RowsE Y Z w ⟨e, sz, L, true⟩ cs f :=
  fun Y Z w cs f h => by unfold RowsE at h ⊢; obtain ⟨h1, rfl⟩ := h; exact ORows_of_Rows h1
/-- A row as a literal lays it: no lists, but those of the routers. -/
theorem raw_le {a b c d e f g fl bt : Int} {R : RV} {rt : List Int} (hR : cellLe R (.fs 1 (rt.map nRow))) :
    RowLe [.v (.int .i64 a), .v (.int .i64 b), .v (.int .i64 c), .v (.int .i64 d), .v (.int .i64 e), .v (.int .i64 f), .v (.int .i64 g), .v (.int .i64 fl), .v (.slice none 0 0), .v (.int .i64 bt), R, .v (.slice none 0 0)] (Ls.rowO ⟨a, b, c, d, e, f, g, fl, [], bt, rt, []⟩) :=
  ⟨le_same _, le_same _, le_same _, le_same _, le_same _, le_same _, le_same _, le_same _, le_os _ _, le_same _, hR, le_fs _, trivial⟩
theorem eO_snoc (l : List Ls) (x : Ls) (r : List RV) (h : r = x.rowO) : seO (l ++ [x]) = ⟨51, 12, l.map Ls.rowO ++ [r], true⟩ := by
  rw [h]
  show (⟨_, _, (l ++ [x]).map Ls.rowO, _⟩ : SE) = _
  rw [List.map_append]
  rfl
/-! ### what Graph makes -/
def LkOk (q : Lk) : Prop := 0 ≤ q.c ∧ q.c ≤ 10 ∧ (q.k = 3 → q.d = 4294967040 ∧ 0 ≤ q.i ∧ q.i ≤ 1000000 ∧ q.i % 256 = 0)
/-- So many routers, from 1 on; each has at most N links. -/
structure Gs (k N : Nat) (gs : List Ls) : Prop where
  len : gs.length = k
  el : ∀ (j : Nat) (x : Ls), gs[j]? = some x → x = ⟨0, 1, j + 1, j + 1, 0, 0, 0, 0, x.lk, 0, [], []⟩ ∧ (∀ q ∈ x.lk, LkOk q) ∧ x.lk.length ≤ N
theorem Gs.mono {k N M : Nat} {gs : List Ls} (h : Gs k N gs) (hm : N ≤ M) : Gs k M gs := ⟨h.len, fun j x hx => by
  obtain ⟨h1, h2, h3⟩ := h.el j x hx
  exact ⟨h1, h2, Nat.le_trans h3 hm⟩⟩
theorem Gs.add {k N : Nat} {gs : List Ls} (h : Gs k N gs) {a : Nat} {x : Ls} (hx : gs[a]? = some x) {q : Lk} (hq : LkOk q) : Gs k (N + 1) (gs.set a (x.add q)) := by
  refine ⟨by rw [List.length_set]; exact h.len, fun j y hy => ?_⟩
  rcases get_set hy with ⟨rfl, rfl, _⟩ | ⟨_, hy⟩
  · obtain ⟨h1, h2, h3⟩ := h.el a x hx
    refine ⟨by unfold Ls.add; rw [h1], fun q' hq' => ?_, ?_⟩
    · rcases List.mem_append.1 hq' with hq' | hq'
      · exact h2 q' hq'
      · rw [List.mem_singleton.1 hq']; exact hq
    · show (x.lk ++ [q]).length ≤ _
      rw [List.length_append, List.length_singleton]; omega
  · obtain ⟨h1, h2, h3⟩ := h.el j y hy
    exact ⟨h1, h2, by omega⟩
theorem Gs.snoc {k N : Nat} {gs : List Ls} (h : Gs k N gs) : Gs (k + 1) N (gs ++ [⟨0, 1, k + 1, k + 1, 0, 0, 0, 0, [], 0, [], []⟩]) := by
  refine ⟨by rw [List.length_append, h.len]; rfl, fun j y hy => ?_⟩
  rcases get_snoc hy with hy | ⟨rfl, rfl⟩
  · exact h.el j y hy
  · refine ⟨?_, ?_, Nat.zero_le _⟩
    · show Ls.mk _ _ _ _ _ _ _ _ _ _ _ _ = _
      rw [h.len]
    · intro q hq; cases hq
theorem Gs.nil : Gs 0 0 [] := ⟨rfl, fun j x h => by simp at h⟩
/-- Networks. -/
def NsOk (ns : List Ls) : Prop := ∀ y ∈ ns, y = ⟨0, 2, y.id, y.adv, 0, 0, 0, 0, [], 24, y.rt, []⟩ ∧ y.rt.length ≤ 6 ∧ 0 ≤ y.id ∧ y.id ≤ 1000000 ∧ y.id % 256 = 0
theorem NsOk.nil : NsOk [] := fun y hy => by cases hy
structure GrOk (n : Int) (l : List Ls) : Prop where
  ex : ∃ (k : Nat) (gs ns : List Ls), (k : Int) = 1 + n % 6 ∧ l = gs ++ ns ∧ Gs k 200 gs ∧ NsOk ns ∧ ns.length ≤ 8
theorem GrOk.few {n : Int} {l : List Ls} (h : GrOk n l) : Few l := by
  obtain ⟨k, gs, ns, h1, rfl, h2, h3, h4⟩ := h.ex
  have hk : k ≤ 6 := by omega
  have := h2.len
  refine ⟨by rw [List.length_append]; omega, fun x hx => ?_, fun x hx => ?_⟩
  · rcases List.mem_append.1 hx with hx | hx
    · obtain ⟨j, hj⟩ := List.mem_iff_getElem?.1 hx
      have := (h2.el j x hj).2.2
      omega
    · rw [(h3 x hx).1]; exact Nat.zero_le _
  · rcases List.mem_append.1 hx with hx | hx
    · obtain ⟨j, hj⟩ := List.mem_iff_getElem?.1 hx
      rw [(h2.el j x hj).1]; exact Nat.zero_le _
    · have := (h3 x hx).2.1
      omega
abbrev u8 (n : Int) : AV := .r (.v (.int .u8 n))
abbrev rs8 (l : List Int) : AV := .r (.rs 1 (l.map fun n => [.v (.int .u8 n)]))
abbrev rsB (l : List Bool) : AV := .r (.rs 1 (l.map fun n => [.v (.bool n)]))
abbrev RG (n : Int) : AV → Hp → Sp → Prop := fun r H S => ∃ l, GrOk n l ∧ r = .sl 0 ∧ H = [] ∧ S = [eO l]
theorem stOL_O (x : Ls) : stOL x.rowO = true := by
  show (true && (true && (true && (true && (true && (true && (true && (true && (stLL (x.lk.map Lk.row) && (true && (stLL (x.rt.map nRow) && (stLL (x.vt.map Vt.row) && true)))))))))))) = true
  rw [stLL_K, stLL_N, stLL_V]
  rfl
theorem stOLL_O : ∀ (l : List Ls), stOLL (l.map Ls.rowO) = true
  | [] => rfl
  | x :: l => by
    rw [List.map_cons]
    unfold stOLL
    rw [stOL_O, stOLL_O l]; rfl
theorem pG {n : Int} : ∀ r H1 S1, RG n r H1 S1 → stA r = true ∧ StH H1 ∧ StS S1 := by
  rintro r H S ⟨l, _, rfl, rfl, rfl⟩
  refine ⟨rfl, StH.nil, fun e he s hs => ?_⟩
  rw [List.mem_singleton] at he
  subst he
  cases hs
  exact stOLL_O l
theorem cost_rm {e : Int} (m : Int) (h0 : 0 ≤ e) (hm : 0 < m) (hm' : m ≤ 6) : 0 ≤ wr .i64 (1 + rm e m) ∧ wr .i64 (1 + rm e m) ≤ 6 := by
  rw [rm_pos h0]
  have := Int.emod_nonneg e (show m ≠ 0 by omega)
  have := Int.emod_lt_of_pos e hm
  rw [wr_i64 (by omega) (by omega)]
  omega
end Go.Proofs.Ytmocggibcniggaa.Kt
