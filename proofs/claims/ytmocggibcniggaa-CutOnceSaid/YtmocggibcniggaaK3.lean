/- The framework of this seat's proofs, part 3: a walk through a function over a symbolic state, proved sound. No condition. -/
import Derived.Test.YtmocggibcniggaaK2
import Derived.Laws.OwnMore
import Derived.Laws.CopyRow
import Derived.Laws.Append
import Derived.Lib.Overlaps
import Derived.Laws.StructEq
import Derived.Deep.Slices
import Derived.ChangeArms
import Derived.ProofKit
import Derived.OpenShut
import Derived.ChangeOld
import Derived.Carry
import Derived.SizedLaws
set_option linter.unusedSimpArgs false
set_option linter.unusedVariables false
namespace Go.Proofs.Ytmocggibcniggaa.Kw
open Go
section
variable {c : Ctx} {ops : Array Oper} {k : List Item} {kz : Kz} {q st : Option St} {i : Nat} {m : Md} {sch : List (Nat × Md)} {F : Fr} {H : Hp} {S : Sp} {o : Oper} {d : Nat} {r : AV} {E E' : Env} {a : Act} {w w' : World} {P : Program} {w0 : World} {X : Org}
/-- An operation that answers the same in every world. -/
theorem r_ans (hi : ops[i]? = some o) (hd : o.dst = some d) (hn : Nat.blt d c.n = true) (hg : gOk ops F o.guard = some true) (hm : mOk m st = true) (hv : ∀ E a w, Fits E w F a → Sat c.w0 c.X E H S w → ∃ u, C E w r u ∧ Ans c.P a o u)
    (h : GR c ops kz q st sch ((d, r) :: F) H S) : GR c ops kz q st ((i, m) :: sch) F H S := by
  intro E a w h1 h2 h3 h4 h5
  obtain ⟨u, hu, ha⟩ := hv E a w h3 h4
  refine seq_ans hi (gOk_ok h3 hg) ha ?_ ?_
  · cases m with
    | p => exact .inl rfl
    | l => exact .inr (.inl rfl)
    | _ => cases st with
      | none => cases hm
      | some s => exact .inr (.inr (sx_of h5 rfl))
  · rw [hd]
    refine h E _ w ?_ ?_ (h3.put hu (by rw [h1]; exact hn)) h4 h5
    · rw [(put_size _ _ _).1]; exact h1
    · rw [(put_size _ _ _).2]; exact h2
theorem add_at (b o n : Nat) : (⟨b, o, none⟩ : Addr).add n = ⟨b, o + n, none⟩ := by
  unfold Addr.add
  split
  · rename_i h; subst h; rfl
  · rfl
theorem CRows_get {Y Z : Nat → Prop} {sz : Nat} : ∀ {L : List (List RV)} {b o : Nat}, CRows Y Z w sz L b o → ∀ {i : Nat} {row : List RV}, L[i]? = some row → row.length = sz ∧ CAt Y Z w row b (o + i * sz)
  | [], b, o, _, i, row, h => by simp at h
  | x :: L, b, o, hc, i, row, h => by
    unfold CRows at hc
    cases i with
    | zero => simp at h; subst h; exact ⟨hc.1, by simpa using hc.2.1⟩
    | succ i =>
      simp at h
      obtain ⟨h1, h2⟩ := CRows_get hc.2.2 h
      refine ⟨h1, ?_⟩
      rw [show o + (i + 1) * sz = o + sz + i * sz from by rw [Nat.add_mul, Nat.one_mul]; omega]
      exact h2
theorem run_indexAt {t e : TypeId} {ti : TypeInfo} {b : Nat} {o' n cp : Nat} {kk : IntKind} {j : Int} (ht : P.underlying t = some (.slice e)) (he : P.info? e = some ti) (h0 : 0 ≤ j) (h1 : j.toNat < n) (w' : World) :
    (Instr.indexAt t (.slice (some ⟨b, o', none⟩) n cp) (.int kk j)).run P w' = .ok (.pointer (some ⟨b, o' + j.toNat * ti.size, none⟩)) w' := by
  unfold Instr.indexAt
  have h2 : 0 ≤ j ∧ j < (n : Int) := ⟨h0, by omega⟩
  simp only [asIntOf, pure_bind, Sem.run_bind, run_underlying_ ht, Result.andThen_ok]
  have e1 : (match (TypeDesc.slice e) with | .array .. => true | _ => false) = false := rfl
  simp only [if_pos h2, Sem.run_bind, run_sizeOf_ he, Result.andThen_ok, Sem.run_pure, add_at]
/-- An element of a slice that is read. -/
theorem r_idx {t e : TypeId} {y ye : Ty} {x ix : Operand} {sz : Nat} {L : List (List RV)} {kk : IntKind} {j : Int} {row : List RV} (hT : TabOk c.P c.T) (hi : ops[i]? = some o) (hop : o.op = .indexAddr t x ix) (hd : o.dst = some d) (hn : Nat.blt d c.n = true) (hg : gOk ops F o.guard = some true) (hm : mOk m st = true)
    (hx : ev F x = some (.r (.rs sz L))) (hix : ev F ix = some (.r (.v (.int kk j)))) (hy : c.T.get t = some y) (hel : y.elem = some e) (hye : c.T.get e = some ye) (hsz : ye.size = sz) (h0 : 0 ≤ j) (hr : L[j.toNat]? = some row)
    (h : GR c ops kz q st sch ((d, .r (.ro row)) :: F) H S) : GR c ops kz q st ((i, m) :: sch) F H S := by
  refine r_ans hi hd hn hg hm (fun E a w h3 h4 => ?_) h
  have hv := h3.ev hx
  have hjv := C_v (h3.ev hix)
  unfold C CR at hv
  obtain ⟨A, cp, hu, h5, h6, h7⟩ := hv
  have hlt := (List.getElem?_eq_some_iff.1 hr).1
  rcases h7 with h7 | ⟨b, o', rfl, hz, hc⟩
  · subst h7; simp at hlt
  · obtain ⟨ti, z, hti, hts, _⟩ := tyOf_zero (hT e ye hye)
    obtain ⟨h8, h9⟩ := CRows_get hc hr
    refine ⟨.pointer (some ⟨b, o' + j.toNat * sz, none⟩), by unfold C CR; exact ⟨b, _, rfl, hz, h9⟩, ans_v (s := Instr.indexAt t (a.eval x) (a.eval ix)) (by unfold execOp; simp only [hop]) (fun w' => ?_)⟩
    rw [hu, hjv, run_indexAt (tyOf_elem (hT t y hy) hel) hti h0 hlt, hts, hsz]
/-- An element of a slice of the call's own. -/
theorem r_idxS {t e : TypeId} {y ye : Ty} {x ix : Operand} {kn : Nat} {se : SE} {kk : IntKind} {j : Int} (hT : TabOk c.P c.T) (hi : ops[i]? = some o) (hop : o.op = .indexAddr t x ix) (hd : o.dst = some d) (hn : Nat.blt d c.n = true) (hg : gOk ops F o.guard = some true) (hm : mOk m st = true)
    (hx : ev F x = some (.sl kn)) (hix : ev F ix = some (.r (.v (.int kk j)))) (hS : S[kn]? = some (some se)) (hy : c.T.get t = some y) (hel : y.elem = some e) (hye : c.T.get e = some ye) (hsz : ye.size = se.sz) (h0 : 0 ≤ j) (hlt : j.toNat < se.L.length)
    (h : GR c ops kz q st sch ((d, .el kn se.sz j.toNat 0) :: F) H S) : GR c ops kz q st ((i, m) :: sch) F H S := by
  refine r_ans hi hd hn hg hm (fun E a w h3 h4 => ?_) h
  have hv := h3.ev hx
  have hjv := C_v (h3.ev hix)
  unfold C at hv
  obtain ⟨v, fp, k1, _, cs, f, k2, _⟩ := h4.sl kn se hS
  have hvv := hv.1
  rw [k1] at hvv; cases hvv
  obtain ⟨ti, z, hti, hts, _⟩ := tyOf_zero (hT e ye hye)
  rcases own_cells k2 with ⟨_, h5⟩ | ⟨b, cap, hvb, _, _, _, _⟩
  · omega
  · refine ⟨.pointer (some ⟨b, 0 + j.toNat * ti.size, none⟩), ?_, ans_v (s := Instr.indexAt t (a.eval x) (a.eval ix)) (by unfold execOp; simp only [hop]) (fun w' => ?_)⟩
    · unfold C
      rw [hvb] at k1
      exact ⟨b, _, cap, k1, by rw [hts, hsz, Nat.zero_add]; rfl⟩
    · rw [hjv, hvb, run_indexAt (tyOf_elem (hT t y hy) hel) hti h0 hlt]
/-- What is loaded of an element. -/
def loadRow (ns : Bool) (y : Ty) (row : List RV) (off : Nat) : Option AV := match y.agg with
  | true => match Nat.ble (off + y.size) row.length with
    | true => match ns with
      | false => some (.agg (rows ((row.drop off).take y.size)))
      | true => match ((row.drop off).take y.size).all fun x => !isOs x with
        | true => some (.agg (rows ((row.drop off).take y.size)))
        | false => none
    | false => none
  | false => match row[off]? with
    | some x => match ns with
      | false => some (.r x)
      | true => match isOs x with
        | false => some (.r x)
        | true => none
    | none => none
theorem ORL_drop {Y Z : Nat → Prop} : ∀ (n : Nat) {cs : List RV} {us : List Value} {fp : List Nat}, ORL Y Z w cs us fp → ∃ g, ORL Y Z w (cs.drop n) (us.drop n) g
  | 0, cs, us, fp, h => ⟨fp, by simpa using h⟩
  | n + 1, [], us, fp, h => by unfold ORL at h; rw [h.1]; exact ⟨[], by simp; unfold ORL; exact ⟨rfl, rfl⟩⟩
  | n + 1, x :: cs, us, fp, h => by
    unfold ORL at h
    obtain ⟨u, r, f, g, rfl, h2, h3, _⟩ := h
    simpa using ORL_drop n h3
theorem ORL_take {Y Z : Nat → Prop} : ∀ (n : Nat) {cs : List RV} {us : List Value} {fp : List Nat}, ORL Y Z w cs us fp → ∃ g, ORL Y Z w (cs.take n) (us.take n) g
  | 0, cs, us, fp, h => ⟨[], by simp; unfold ORL; exact ⟨rfl, rfl⟩⟩
  | n + 1, [], us, fp, h => by unfold ORL at h; rw [h.1]; exact ⟨[], by simp; unfold ORL; exact ⟨rfl, rfl⟩⟩
  | n + 1, x :: cs, us, fp, h => by
    unfold ORL at h
    obtain ⟨u, r, f, g, rfl, h2, h3, _⟩ := h
    obtain ⟨g', h4⟩ := ORL_take n h3
    refine ⟨f ++ g', ?_⟩
    simp only [List.take_succ_cons]
    unfold ORL
    exact ⟨u, _, f, g', rfl, h2, h4, rfl⟩
/-- A row of an own slice. -/
theorem OwnE_row {Y Z : Nat → Prop} {e : SE} {v : Value} {fp : List Nat} (h : OwnE Y Z w e v fp) {j : Nat} {row : List RV} (hr : e.L[j]? = some row) : ∃ cs vs g, w.ownsRow 0 e.e e.sz v e.L.length cs ∧ (cs.drop (j * e.sz)).take e.sz = vs ∧ row.length = e.sz ∧ ORL Y Z w row vs g ∧ (e.ns = false → RL Y Z w row vs) := by
  cases hn : e.ns with
  | false =>
    obtain ⟨cs, h1, h2, _⟩ := (OwnE_flat hn).1 h
    obtain ⟨vs, e1, e2, e3⟩ := Rows_get h2 hr
    exact ⟨cs, vs, [], h1, e1, e2, ORL_of_RL e3, fun _ => e3⟩
  | true =>
    obtain ⟨cs, f, h1, h2, _⟩ := (OwnE_nest hn).1 h
    obtain ⟨vs, g, e1, e2, e3, _⟩ := ORows_get h2 hr
    exact ⟨cs, vs, g, h1, e1, e2, e3, fun h => by cases h⟩
theorem RL_drop {Y Z : Nat → Prop} : ∀ (n : Nat) {cs : List RV} {us : List Value}, RL Y Z w cs us → RL Y Z w (cs.drop n) (us.drop n)
  | 0, cs, us, h => by simpa using h
  | n + 1, [], us, h => by unfold RL at h; subst h; simp; unfold RL; rfl
  | n + 1, x :: cs, us, h => by
    unfold RL at h
    obtain ⟨u, r, rfl, h2, h3⟩ := h
    simpa using RL_drop n h3
def elOk (m : Md) (st : Option St) (kn : Nat) : Bool := match m, st with
  | .l, _ => true
  | .o, some _ => true
  | .t, some s => match s.S1[kn]? with
    | some (some _) => true
    | _ => false
  | _, _ => false
/-- A load from an element of a slice of the call's own. -/
theorem r_loadS {t : TypeId} {y : Ty} {x : Operand} {kn sz j off : Nat} {se : SE} {row : List RV} (hT : TabOk c.P c.T) (hi : ops[i]? = some o) (hop : o.op = .load t x) (hd : o.dst = some d) (hn : Nat.blt d c.n = true) (hg : gOk ops F o.guard = some true)
    (hx : ev F x = some (.el kn sz j off)) (hS : S[kn]? = some (some se)) (hsz : se.sz = sz) (hr : se.L[j]? = some row) (hy : c.T.get t = some y) (hm : elOk m st kn = true) (hl : loadRow se.ns y row off = some r)
    (h : GR c ops kz q st sch ((d, r) :: F) H S) : GR c ops kz q st ((i, m) :: sch) F H S := by
  intro E a w h1 h2 h3 h4 h5
  obtain ⟨v, fp, k1, kp, k3⟩ := h4.sl kn se hS
  have hv := h3.ev hx
  unfold C at hv
  obtain ⟨b, n, cap, hvb, hp⟩ := hv
  rw [k1] at hvb
  cases hvb
  have hlt := (List.getElem?_eq_some_iff.1 hr).1
  have hbfp : b ∈ fp := by
    obtain ⟨_, _, _, _, rfl⟩ := k3
    simp [Value.ownBlock]
  obtain ⟨cs, vs, g, k2, e1, e2, e3, e5⟩ := OwnE_row k3 hr
  rcases own_cells k2 with ⟨h6, _⟩ | ⟨b', cap', hvb, h6, h7, h8, h9⟩
  · cases h6
  · cases hvb
    subst hsz
    have vget : ∀ (jj : Nat) (u : Value), vs[off + jj]? = some u → ∀ w' : World, w'.heap[b]? = w.heap[b]? → w'.cell? ⟨b, j * se.sz + off + jj, none⟩ = some u := by
      intro jj u hu w' hw'
      rw [World.cell?_of_block (w := w) (w' := w') (a := ⟨b, j * se.sz + off + jj, none⟩) hw']
      refine h9 _ u ?_
      rw [← e1, List.getElem?_take] at hu
      split at hu
      · rw [List.getElem?_drop] at hu
        rw [show j * se.sz + off + jj = j * se.sz + (off + jj) from by omega]
        exact hu
      · cases hu
    have part : ∀ n, (se.ns = true → (((row.drop off).take n).all fun x => !isOs x) = true) → RL E.Y E.Z w ((row.drop off).take n) ((vs.drop off).take n) := by
      intro n hh
      cases hn : se.ns with
      | false => exact RL_take n (RL_drop off (e5 hn))
      | true =>
        obtain ⟨g1, q1⟩ := ORL_drop off e3
        obtain ⟨g2, q2⟩ := ORL_take n q1
        exact RL_of_ORL (hh hn) q2
    have ans : ∃ u, C E w r u ∧ ∀ w' : World, w'.heap[b]? = w.heap[b]? → (loadVar t ⟨b, j * se.sz + off, none⟩).run c.P w' = .ok u w' := by
      unfold loadRow at hl
      split at hl
      · rename_i hag
        split at hl
        · rename_i hle
          have hle' := Nat.le_of_ble_eq_true hle
          have hvl := ORL_length e3
          have fin : r = .agg (rows ((row.drop off).take y.size)) ∧ (se.ns = true → (((row.drop off).take y.size).all fun x => !isOs x) = true) := by
            split at hl
            · rename_i hn
              cases hl
              exact ⟨rfl, fun h => by rw [hn] at h; cases h⟩
            · split at hl
              · rename_i hall
                cases hl
                exact ⟨rfl, fun _ => hall⟩
              · cases hl
          obtain ⟨rfl, hall⟩ := fin
          have hrl := part y.size hall
          refine ⟨.agg (List.toArray ((vs.drop off).take y.size)), by unfold C; exact ⟨_, rfl, RL_rows hrl, RL_one hrl⟩, fun w' hw' => ?_⟩
          refine run_loadVar (hT t y hy) (us := (vs.drop off).take y.size) (fun jj u hj => ?_) (by rw [hag]; exact ⟨by simp; omega, rfl⟩)
          rw [List.getElem?_take] at hj
          split at hj
          · rw [List.getElem?_drop] at hj
            exact vget jj u hj w' hw'
          · cases hj
        · cases hl
      · rename_i hag
        split at hl
        · rename_i x' hx'
          have fin : r = .r x' ∧ (se.ns = true → isOs x' = false) := by
            split at hl
            · rename_i hn
              cases hl
              exact ⟨rfl, fun h => by rw [hn] at h; cases h⟩
            · split at hl
              · rename_i hos
                cases hl
                exact ⟨rfl, fun _ => hos⟩
              · cases hl
          obtain ⟨rfl, hos⟩ := fin
          obtain ⟨u, f', m1, m2, _⟩ := ORL_get e3 hx'
          have m3 : CR E.Y E.Z w x' u := by
            cases hn : se.ns with
            | false =>
              obtain ⟨u', q1, q2⟩ := RL_get (e5 hn) hx'
              rw [m1] at q1
              cases q1
              exact q2
            | true => exact ((OR_cr (hos hn)).1 m2).1
          refine ⟨u, by unfold C; exact m3, fun w' hw' => run_loadVar (hT t y hy) (us := vs.drop off) (fun jj u hj => ?_) (by rw [hag]; simpa using m1)⟩
          rw [List.getElem?_drop] at hj
          exact vget jj u hj w' hw'
        · cases hl
    obtain ⟨u, hu, hrun⟩ := ans
    have rest : Seq c.yl c.P ops (RT c kz.k ops q kz.T) (Sx q) sch (a.put o.dst u) w := by
      rw [hd]
      refine h E _ w ?_ ?_ (h3.put hu (by rw [h1]; exact hn)) h4 h5
      · rw [(put_size _ _ _).1]; exact h1
      · rw [(put_size _ _ _).2]; exact h2
    have run : ∀ w' : World, w'.heap[b]? = w.heap[b]? → (execOp a.eval o).run c.P w' = .ok (.value u) w' := fun w' hw' => by
      unfold execOp
      simp only [hop, hp, Instr.loadAt, Instr.sureAddr, pure_bind, Sem.run_bind, hrun w' hw', Result.andThen_ok, Sem.run_pure]
    have hw := gOk_ok (o := o) h3 hg
    cases m with
    | p => cases st <;> cases hm
    | o => cases st with
      | none => cases hm
      | some s => exact seq_value hi hw (run w rfl) (.inl ⟨rfl, sx_of h5 rfl⟩) rest
    | l => exact seq_value hi hw (run w rfl) (.inr rfl) rest
    | t => cases st with
      | none => cases hm
      | some s =>
        obtain ⟨hq, inv⟩ := h5 s rfl
        refine ⟨o, hi, u, .inl ⟨hw, fun w' hw' => run w' ?_⟩, sx_of h5 rfl, rest⟩
        rw [hq] at hw'
        have hb : s.K b := by
          simp only [elOk] at hm
          split at hm
          · rename_i e' he'
            exact inv.V kn e' fp b he' kp hbfp
          · cases hm
        exact (hw'.2 b hb).trans (inv.keeps.2 b hb).symm
end
end Go.Proofs.Ytmocggibcniggaa.Kw
namespace Go.Proofs.Ytmocggibcniggaa.Kw
open Go
/-! ### a literal slice -/
def rvL : List AV → Option (List RV)
  | [] => some []
  | .r x :: xs => match rvL xs with
    | some ys => some (x :: ys)
    | none => none
  | _ :: _ => none
def litRows (sz : Nat) : Nat → List (Nat × AV) → Option (List (List RV))
  | _, [] => some []
  | n, (i, x) :: xs => match Nat.beq i n, cellsA x with
    | true, some cs => match rvL cs, litRows sz (n + 1) xs with
      | some r, some rs => match Nat.beq r.length sz with
        | true => some (r :: rs)
        | false => none
      | _, _ => none
    | _, _ => none
section
variable {c : Ctx} {ops : Array Oper} {k : List Item} {kz : Kz} {q st : Option St} {i : Nat} {m : Md} {sch : List (Nat × Md)} {F : Fr} {H : Hp} {S : Sp} {o : Oper} {d : Nat} {r : AV} {E E' : Env} {a : Act} {w w' : World} {P : Program} {w0 : World} {X : Org}
theorem rvL_ok : ∀ {xs : List AV} {ys : List RV} {us : List Value}, rvL xs = some ys → CL E w xs us → RL E.Y E.Z w ys us ∧ ys.length = xs.length
  | [], ys, us, h, hc => by simp only [rvL] at h; cases h; unfold CL at hc; unfold RL; exact ⟨hc, rfl⟩
  | x :: xs, ys, us, h, hc => by
    cases x with
    | r x =>
      simp only [rvL] at h
      split at h
      · rename_i zs hz
        cases h
        unfold CL at hc
        obtain ⟨u, r, h1, h2, h3⟩ := hc
        obtain ⟨k1, k2⟩ := rvL_ok hz h3
        unfold C at h2
        exact ⟨by unfold RL; exact ⟨u, r, h1, h2, k1⟩, by simp [k2]⟩
      · cases h
    | _ => simp [rvL] at h
theorem foldl_set : ∀ (v done rest : List Value), v.length ≤ rest.length → (v.zipIdx 0).foldl (fun acc (c, j) => acc.setIfInBounds (done.length + j) c) (List.toArray (done ++ rest)) = List.toArray (done ++ v ++ rest.drop v.length)
  | [], done, rest, _ => by simp
  | x :: v, done, rest, h => by
    cases rest with
    | nil => simp at h
    | cons y rest =>
      have sh : ∀ (l : List Value) (n b : Nat) (A : Array Value), (l.zipIdx (n + 1)).foldl (fun acc (c, j) => acc.setIfInBounds (b + j) c) A = (l.zipIdx n).foldl (fun acc (c, j) => acc.setIfInBounds (b + 1 + j) c) A := by
        intro l
        induction l with
        | nil => intro n b A; rfl
        | cons x l ih =>
          intro n b A
          simp only [List.zipIdx_cons, List.foldl_cons]
          rw [ih (n + 1)]
          congr 2
          omega
      simp only [List.zipIdx_cons, List.foldl_cons, Nat.zero_add, Nat.add_zero]
      rw [sh v 0]
      have e : (List.toArray (done ++ y :: rest)).setIfInBounds done.length x = List.toArray ((done ++ [x]) ++ rest) := by simp
      rw [e]
      have := foldl_set v (done ++ [x]) rest (by simp at h; omega)
      rw [show (done ++ [x]).length = done.length + 1 from by simp] at this
      rw [this]
      simp
theorem fill_rows {sz : Nat} {place : Nat → Option (Nat × Nat)} (hp : ∀ i, place i = some (i * sz, sz)) : ∀ (ps : List (Nat × Value)) (vs : List (List Value)) (n : Nat) (done rest : List Value), done.length = n * sz → rest.length = vs.length * sz → ps.length = vs.length →
    (∀ (j : Nat) p v, ps[j]? = some p → vs[j]? = some v → p.1 = n + j ∧ p.2.cells = List.toArray v ∧ v.length = sz) → Instr.fill place (List.toArray (done ++ rest)) ps = some (List.toArray (done ++ vs.flatten))
  | [], vs, n, done, rest, h1, h2, h3, h4 => by
    have : vs = [] := List.eq_nil_of_length_eq_zero (by simpa using h3.symm)
    subst this
    have : rest = [] := List.eq_nil_of_length_eq_zero (by simpa using h2)
    subst this
    simp [Instr.fill]
  | (i, u) :: ps, [], n, done, rest, h1, h2, h3, h4 => by simp at h3
  | (i, u) :: ps, v :: vs, n, done, rest, h1, h2, h3, h4 => by
    obtain ⟨k1, k2, k3⟩ := h4 0 (i, u) v (by simp) (by simp)
    simp only [Nat.add_zero] at k1
    subst k1
    have hle : sz ≤ rest.length := by rw [h2]; simp [Nat.add_mul]
    rw [fill_cons (hp i) (by rw [k2]; simp [k3]) (by simp; omega)]
    have e : (u.cells.zipIdx.foldl (fun cs (c, j) => cs.setIfInBounds (i * sz + j) c) (List.toArray (done ++ rest))) = List.toArray ((done ++ v) ++ rest.drop v.length) := by
      rw [k2, ← h1]
      have := foldl_set v done rest (by rw [k3]; exact hle)
      simpa using this
    rw [e]
    have := fill_rows hp ps vs (i + 1) (done ++ v) (rest.drop v.length) (by simp [h1, k3, Nat.add_mul]) (by simp [h2, k3, Nat.add_mul]) (by simpa using h3) (fun j p v' hj hv => by
      obtain ⟨m1, m2, m3⟩ := h4 (j + 1) p v' (by simpa using hj) (by simpa using hv)
      exact ⟨by omega, m2, m3⟩)
    rw [this]
    simp
theorem litRows_ok {sz : Nat} : ∀ {xs : List (Nat × AV)} {n : Nat} {L : List (List RV)} {ps : List (Nat × Value)}, litRows sz n xs = some L → CP E w xs ps → ∃ vs : List (List Value), ps.length = vs.length ∧ L.length = vs.length ∧ Rows E.Y E.Z w sz L vs.flatten ∧ (∀ (j : Nat) p v, ps[j]? = some p → vs[j]? = some v → p.1 = n + j ∧ p.2.cells = List.toArray v ∧ v.length = sz)
  | [], n, L, ps, h, hc => by
    simp only [litRows] at h; cases h
    unfold CP at hc
    subst hc
    exact ⟨[], rfl, rfl, by unfold Rows; rfl, fun j p v hj => by simp at hj⟩
  | (i, x) :: xs, n, L, ps, h, hc => by
    simp only [litRows] at h
    split at h
    · rename_i cs hb hcs
      split at h
      · rename_i r rs hr hrs
        split at h
        · rename_i hl
          cases h
          unfold CP at hc
          obtain ⟨u, pr, rfl, h2, h3⟩ := hc
          obtain ⟨us, e1, e2, e3⟩ := cellsA_ok hcs h2
          obtain ⟨k1, k2⟩ := rvL_ok hr e2
          obtain ⟨vs, m1, m2, m3, m4⟩ := litRows_ok hrs h3
          have hsz := Nat.eq_of_beq_eq_true hl
          refine ⟨us :: vs, by simp [m1], by simp [m2], ?_, fun j p v hj hv => ?_⟩
          · rw [List.flatten_cons]
            unfold Rows
            exact ⟨us, vs.flatten, rfl, hsz, k1, m3⟩
          · cases j with
            | zero =>
              simp at hj hv
              subst hj; subst hv
              exact ⟨Nat.eq_of_beq_eq_true hb, e1, by rw [RL_length k1, hsz]⟩
            | succ j =>
              obtain ⟨a1, a2, a3⟩ := m4 j p v (by simpa using hj) (by simpa using hv)
              exact ⟨by omega, a2, a3⟩
        · cases h
      · cases h
    · cases h
theorem new_slice (h3 : Fits E w F a) (h4 : Sat c.w0 c.X E H S w) {e : TypeId} {sz : Nat} {L : List (List RV)} {cs : List Value} (hr : Rows E.Y E.Z w sz L cs) (hm : L.length ≤ maxLen) :
    ∃ E', C E' { w with heap := w.heap.push (.cells (List.toArray cs) e (0, 0)) } (.sl S.length) (.slice (some ⟨w.heap.size, 0, none⟩) L.length L.length) ∧ Fits E' { w with heap := w.heap.push (.cells (List.toArray cs) e (0, 0)) } F a ∧
      Sat c.w0 c.X E' H (S ++ [some ⟨e, sz, L, false⟩]) { w with heap := w.heap.push (.cells (List.toArray cs) e (0, 0)) } ∧ (∀ s, Inv s E w → s.n1 ≤ H.length → s.S1.length ≤ S.length → Inv s E' { w with heap := w.heap.push (.cells (List.toArray cs) e (0, 0)) }) := by
  have hs := stays_push w (.cells (List.toArray cs) e (0, 0))
  have hl := Rows_length hr
  have hr' := Rows_mono (Y' := E.Y) (Z' := E.Z) (fun _ h => h) (fun _ h => h) h4.YZ (fun b hb => hs.blk (h4.Z b hb)) hr
  refine ⟨E.withV (.slice (some ⟨w.heap.size, 0, none⟩) L.length L.length) [w.heap.size], ?_, h3.mono h4.YZ (le_V E _ _) (fun b hb => hs.blk (h4.Z b hb)), ?_, fun s inv _ hn => ?_⟩
  · unfold C
    exact ⟨by simp [← h4.lV], rfl⟩
  · refine h4.newV hs (e := ⟨e, sz, L, false⟩) ((OwnE_flat rfl).2 ⟨cs, ⟨hl, .inr ⟨w.heap.size, L.length, List.toArray cs, rfl, Nat.zero_le _, by simp, Nat.le_refl _, hm, by simp [hl], by simp [← hl]⟩⟩, hr', by simp [Value.ownBlock]⟩) (by simp) (fun b hb => by simp at hb; omega)
  · refine inv.grow hs.size (fun b hb => hs.blk hb) (fun _ _ _ hb => hb) (fun i e' v hi hv => ?_) (fun _ hz => hz) (fun b x hlt hx => by
      have hx' : (if b ∈ [w.heap.size] then some (Sum.inr E.V.length) else E.O b) = some x := hx
      rwa [if_neg (by simp; omega)] at hx')
    have hl : i < E.P.length := by
      have := (List.getElem?_eq_some_iff.1 hi).1
      rw [h4.lP]; omega
    have hv' : (E.P ++ [[w.heap.size]])[i]? = some v := hv
    rwa [List.getElem?_append_left hl] at hv'
theorem r_lit {t e : TypeId} {len : Nat} {ps : Array (Nat × Operand)} {y ye : Ty} {xs : List (Nat × AV)} {L : List (List RV)} (hT : TabOk c.P c.T) (hi : ops[i]? = some o) (hop : o.op = .buildSlice t len ps) (hd : o.dst = some d) (hn : Nat.blt d c.n = true) (hg : gOk ops F o.guard = some true) (hm : oOk m st = true) (hst : stLe st H.length S.length = true)
    (hx : evp F ps.toList = some xs) (hy : c.T.get t = some y) (hel : y.elem = some e) (hye : c.T.get e = some ye) (hL : litRows ye.size 0 xs = some L) (hlen : (Nat.beq L.length len && Nat.ble (len * ye.size) 16777216 && Nat.ble len 16777216) = true)
    (h : GR c ops kz q st sch ((d, .sl S.length) :: F) H (S ++ [some ⟨e, ye.size, L, false⟩])) : GR c ops kz q st ((i, m) :: sch) F H S := by
  refine gr_grow hi hd hn hg hm (fun E a w h3 h4 => ?_) (stLe_ok hst).1 (stLe_ok hst).2 h
  rw [Bool.and_eq_true, Bool.and_eq_true] at hlen
  have hlen1 : L.length = len := Nat.eq_of_beq_eq_true hlen.1.1
  have hlen2 := Nat.le_of_ble_eq_true hlen.1.2
  have hlen3 := Nat.le_of_ble_eq_true hlen.2
  obtain ⟨vs, e1, e2, e3, e4⟩ := litRows_ok hL (h3.evp hx)
  obtain ⟨ti, z, hti, hts, _, hz0, hzc⟩ := tyOf_zero (hT e ye hye)
  have hml : L.length ≤ maxLen := by
    unfold maxLen
    omega
  obtain ⟨E', m1, m2, m3, m4⟩ := new_slice (e := e) h3 h4 e3 hml
  refine ⟨E', _, _, ?_, m1, m2, m3, m4⟩
  have hps : (ps.map fun p => (p.1, a.eval p.2)).toList = ps.toList.map fun p => (p.1, a.eval p.2) := by simp
  have fill : ∀ A : Array Value, A.size = len * ye.size → Instr.fill (fun i => some (i * ye.size, ye.size)) A (ps.map fun p => (p.1, a.eval p.2)).toList = some (List.toArray vs.flatten) := by
    intro A hA
    have := fill_rows (sz := ye.size) (place := fun i => some (i * ye.size, ye.size)) (fun _ => rfl) (ps.toList.map fun p => (p.1, a.eval p.2)) vs 0 [] A.toList (by simp) (by simp [hA, ← e2, hlen1]) e1 e4
    rw [hps]
    simpa using this
  unfold execOp
  simp only [hop]
  unfold Instr.buildSlice
  simp only [Sem.run_bind, run_underlying_ (tyOf_elem (hT t y hy) hel), run_sizeOf_ hti, hts, Result.andThen_ok]
  rw [if_neg (by omega)]
  by_cases h0 : len * ye.size = 0
  · simp only [if_pos h0, Sem.run_bind, Sem.run_pure, Result.andThen_ok]
    rw [fill _ (by simp)]
    simp [newRow, hlen1]
  · simp only [if_neg h0, Sem.run_bind, run_zero_ hti hz0, Sem.run_pure, Result.andThen_ok]
    rw [fill _ (by simp)]
    simp [newRow, hlen1]
end
end Go.Proofs.Ytmocggibcniggaa.Kw
namespace Go.Proofs.Ytmocggibcniggaa.Kw
open Go
/-! ### append -/
section
variable {c : Ctx} {ops : Array Oper} {k : List Item} {kz : Kz} {q st : Option St} {i : Nat} {m : Md} {sch : List (Nat × Md)} {F : Fr} {H : Hp} {S : Sp} {o : Oper} {d : Nat} {r : AV} {E E' : Env} {a : Act} {w w' : World} {P : Program} {w0 : World} {X : Org} {Y Z : Nat → Prop}
theorem CAt_RL : ∀ {xs : List RV} {b o : Nat}, CAt Y Z w xs b o → ∃ us, RL Y Z w xs us ∧ ∀ (j : Nat) (u : Value), us[j]? = some u → w.cell? ⟨b, o + j, none⟩ = some u
  | [], b, o, _ => ⟨[], by unfold RL; rfl, fun j u h => by simp at h⟩
  | x :: xs, b, o, h => by
    unfold CAt at h
    obtain ⟨⟨u, h1, h2⟩, h3⟩ := h
    obtain ⟨us, h4, h5⟩ := CAt_RL h3
    refine ⟨u :: us, by unfold RL; exact ⟨u, us, rfl, h2, h4⟩, fun j v hj => ?_⟩
    cases j with
    | zero => simp at hj; subst hj; exact h1
    | succ j =>
      simp at hj
      have := h5 j v hj
      rwa [show o + 1 + j = o + (j + 1) from by omega] at this
theorem CRows_Rows {sz : Nat} : ∀ {L : List (List RV)} {b o : Nat}, CRows Y Z w sz L b o → ∃ us, Rows Y Z w sz L us ∧ ∀ (j : Nat) (u : Value), us[j]? = some u → w.cell? ⟨b, o + j, none⟩ = some u
  | [], b, o, _ => ⟨[], by unfold Rows; rfl, fun j u h => by simp at h⟩
  | x :: L, b, o, h => by
    unfold CRows at h
    obtain ⟨h1, h2, h3⟩ := h
    obtain ⟨us, k1, k2⟩ := CAt_RL h2
    obtain ⟨vs, m1, m2⟩ := CRows_Rows h3
    have hl := RL_length k1
    refine ⟨us ++ vs, by unfold Rows; exact ⟨us, vs, rfl, h1, k1, m1⟩, fun j v hj => ?_⟩
    rw [List.getElem?_append] at hj
    split at hj
    · exact k2 j v hj
    · rename_i hlt
      have := m2 (j - us.length) v hj
      rwa [show o + sz + (j - us.length) = o + j from by omega] at this
/-- What is appended: an own slice, or one that is read. -/
def srcRows (S : Sp) : AV → Option (Nat × List (List RV))
  | .sl k => match S[k]? with
    | some (some e) => match e.ns with
      | false => some (e.sz, e.L)
      | true => none
    | _ => none
  | .r (.rs sz L) => some (sz, L)
  | .r (.fs sz L) => some (sz, L)
  | .r (.v (.slice none 0 0)) => some (0, [])
  | _ => none
theorem src_ok (h : Sat w0 X E H S w) {x : AV} {u : Value} {sz : Nat} {L : List (List RV)} (hs : srcRows S x = some (sz, L)) (hx : C E w x u) :
    ∃ us cp, Rows E.Y E.Z w sz L us ∧ ((∃ b o, u = .slice (some ⟨b, o, none⟩) L.length cp ∧ ∀ (j : Nat) (v : Value), us[j]? = some v → w.cell? ((⟨b, o, none⟩ : Addr).add j) = some v) ∨ (L = [] ∧ ∃ A, u = .slice A 0 cp)) := by
  have add : ∀ (b o j : Nat), (⟨b, o, none⟩ : Addr).add j = ⟨b, o + j, none⟩ := fun b o j => by unfold Addr.add; split <;> simp_all
  unfold srcRows at hs
  split at hs
  · split at hs
    · rename_i k e he
      split at hs
      · rename_i hn
        cases hs
        obtain ⟨v, fp, h1, _, ho⟩ := h.sl _ _ he
        obtain ⟨cs, h2, h3, _⟩ := (OwnE_flat hn).1 ho
        unfold C at hx
        rw [h1] at hx
        have := hx.1
        cases this
        rcases own_cells h2 with ⟨rfl, h0⟩ | ⟨b, cap, rfl, _, _, _, hc⟩
        · exact ⟨cs, 0, h3, .inr ⟨List.eq_nil_of_length_eq_zero h0, none, rfl⟩⟩
        · exact ⟨cs, cap, h3, .inl ⟨b, 0, rfl, fun j v hj => by rw [add, Nat.zero_add]; exact hc j v hj⟩⟩
      · cases hs
    · cases hs
  · cases hs
    unfold C CR at hx
    obtain ⟨A, cp, rfl, _, _, h3⟩ := hx
    rcases h3 with rfl | ⟨b, o, rfl, _, hc⟩
    · exact ⟨[], cp, by unfold Rows; rfl, .inr ⟨rfl, A, rfl⟩⟩
    · obtain ⟨us, k1, k2⟩ := CRows_Rows hc
      exact ⟨us, cp, k1, .inl ⟨b, o, rfl, fun j v hj => by rw [add]; exact k2 j v hj⟩⟩
  · cases hs
    unfold C CR at hx
    obtain ⟨A, cp, rfl, _, _, h3⟩ := hx
    rcases h3 with rfl | ⟨b, o, rfl, _, hc⟩
    · exact ⟨[], cp, by unfold Rows; rfl, .inr ⟨rfl, A, rfl⟩⟩
    · obtain ⟨us, k1, k2⟩ := CRows_Rows hc
      exact ⟨us, cp, k1, .inl ⟨b, o, rfl, fun j v hj => by rw [add]; exact k2 j v hj⟩⟩
  · cases hs
    have := C_v hx
    subst this
    exact ⟨[], 0, by unfold Rows; rfl, .inr ⟨rfl, none, rfl⟩⟩
  · cases hs
theorem run_append_none' {base : Nat} {t ty e : TypeId} {ti : TypeInfo} {size : Nat} (ht : P.underlying t = some (.slice e)) (hi : P.info? e = some ti)
    {v : Value} {n : Nat} {xs : List Value} (hown : w.ownsRow base e size v n xs) {A : Option Addr} {cp : Nat} :
    (Builtin.append_ #[t, t] ty #[v, .slice A 0 cp]).run P w = .ok v w := by
  rcases hown.2 with ⟨rfl, rfl⟩ | ⟨g, cap, cur, rfl, _, _, hnc, _⟩ <;> cases A
  · simp [Builtin.append_, run_underlying ht, Go.sizeOf, typeInfo, hi, Builtin.lenOf, Builtin.firstCells, loadCells, loadCellsFrom]
  · simp [Builtin.append_, run_underlying ht, Go.sizeOf, typeInfo, hi, Builtin.lenOf, Builtin.firstCells, loadCells, loadCellsFrom]
  · simp [Builtin.append_, run_underlying ht, Go.sizeOf, typeInfo, hi, Builtin.lenOf, Builtin.firstCells, loadCells, loadCellsFrom, hnc, storeCells]
  · simp [Builtin.append_, run_underlying ht, Go.sizeOf, typeInfo, hi, Builtin.lenOf, Builtin.firstCells, loadCells, loadCellsFrom, hnc, storeCells]
theorem fits_cut {p : AV → Bool} (hF : Fits E w F a) (hyz : ∀ b, E.Y b → E.Z b) (hk : Keeps E E' p) (hz : ∀ b, E.Z b → w'.heap[b]? = w.heap[b]?) : Fits E' w' (cutFP p F) a := by
  refine ⟨fun d y hy => ?_⟩
  obtain ⟨x, h1, rfl⟩ := cutF_get hy
  obtain ⟨u, h2, h3⟩ := hF.get d x h1
  exact ⟨u, h2, C_cut hk (C_mono hyz (Env.le_refl E) hz _ _ h3)⟩
/-- Rows are put behind those of an own slice. -/
theorem RowsE_append {e : SE} {L2 : List (List RV)} {cs us : List Value} {f : List Nat} (h : RowsE Y Z w e cs f) (h2 : Rows Y Z w e.sz L2 us) : RowsE Y Z w ⟨e.e, e.sz, e.L ++ L2, e.ns⟩ (cs ++ us) f := by
  unfold RowsE at h ⊢
  cases hn : e.ns with
  | false => rw [hn] at h; exact ⟨Rows_append h.1 h2, h.2⟩
  | true => rw [hn] at h; have := ORows_append h (ORows_of_Rows h2); simpa using this
theorem RowsE_mono {Y' Z' : Nat → Prop} (hY : ∀ b, Y b → Y' b) (hZ : ∀ b, Z b → Z' b) (hyz : ∀ b, Y b → Z b) (hw : ∀ b, Z b → w'.heap[b]? = w.heap[b]?) {e : SE} {cs : List Value} {f : List Nat} (hf : ∀ b ∈ f, w'.heap[b]? = w.heap[b]?) (h : RowsE Y Z w e cs f) : RowsE Y' Z' w' e cs f := by
  unfold RowsE at h ⊢
  cases hn : e.ns with
  | false => rw [hn] at h; exact ⟨Rows_mono hY hZ hyz hw h.1, h.2⟩
  | true => rw [hn] at h; exact ORows_mono hY hZ hyz hw hf h
theorem RowsE_lt {e : SE} {cs : List Value} {f : List Nat} (h : RowsE Y Z w e cs f) : ∀ b ∈ f, b < w.heap.size := by
  unfold RowsE at h
  cases hn : e.ns with
  | false => rw [hn] at h; rw [h.2]; simp
  | true => rw [hn] at h; exact ORows_lt h
/-- APPEND to a slice of the call's own: whoever else led to it is forgotten. -/
theorem r_append {t e : TypeId} {y ye : Ty} {x z : Operand} {kn sz : Nat} {se : SE} {zv : AV} {L2 : List (List RV)} (hT : TabOk c.P c.T) (hi : ops[i]? = some o) (hop : o.op = .call { callee := .builtin .append, args := #[x, z], argTypes := #[t, t] }) (hd : o.dst = some d) (hn : Nat.blt d c.n = true) (hg : gOk ops F o.guard = some true)
    (hx : ev F x = some (.sl kn)) (hS : S[kn]? = some (some se)) (hz : ev F z = some zv) (hzv : srcRows S zv = some (sz, L2)) (hy : c.T.get t = some y) (hel : y.elem = some e) (hye : c.T.get e = some ye) (hse : se.e = e) (hs1 : ye.size = se.sz) (hs2 : sz = se.sz) (hpos : Nat.blt 0 ye.size = true) (hzl : Nat.beq ye.zero.length ye.size = true)
    (hlen : se.L.length + L2.length ≤ maxLen ∧ (se.L.length + L2.length) * ye.bytes ≤ 140737488355328)
    (h : GR c ops kz q none sch ((d, .sl kn) :: cutF kn F) (cutH kn H) (S.set kn (some ⟨se.e, se.sz, se.L ++ L2, se.ns⟩))) (hnv : ble0 c.X.nv kn = true := by rfl) : GR c ops kz q st ((i, .l) :: sch) F H S := by
  intro E a w h1 h2 h3 h4 h5
  subst hs2
  subst hse
  obtain ⟨v, fp, k1, kp, xs, f, k2, k3, kfp⟩ := h4.sl kn se hS
  have hv := h3.ev hx
  unfold C at hv
  rw [k1] at hv
  obtain ⟨hv, _⟩ := hv
  simp only [Option.some.injEq] at hv
  obtain ⟨us, cp, m1, m2⟩ := src_ok h4 hzv (h3.ev hz)
  obtain ⟨ti, z0, hti, hts, htb, hz0, hzc⟩ := tyOf_zero (hT se.e ye hye)
  have hls := Rows_length m1
  have hzs : z0.cells.size = ye.size := by
    rw [← Array.length_toList, hzc, Nat.eq_of_beq_eq_true hzl]
  have hkl : kn < S.length := (List.getElem?_eq_some_iff.1 hS).1
  have hndf := h4.PN kn se fp hS kp
  have fin : ∀ (v' : Value) (w' : World), (execOp a.eval o).run c.P w = .ok (.value v') w' → w'.ownsRow 0 se.e se.sz v' (se.L ++ L2).length (xs ++ us) → w.grownBy w' v.ownBlock → (v'.ownBlock = v.ownBlock ∨ v'.ownBlock = some w.heap.size) → Seq c.yl c.P ops (RT c kz.k ops q kz.T) (Sx q) ((i, .l) :: sch) a w := by
    intro v' w' hr ho hgr hat
    have hc : Chg w w' (fun b => b ∈ v.ownBlock.toList) := ⟨hgr.size, fun b hb hne => hgr.block b hb (fun e => hne (by rw [← e]; simp)), hgr.os, hgr.tape, hgr.output, run_drawn _ _ _ _ hr⟩
    have hof : ∀ b ∈ v.ownBlock.toList, b ∉ f := fun b hb hbf => by
      rw [kfp] at hndf
      exact (List.nodup_append.1 hndf).2.2 b hb b hbf rfl
    have hc' : Chg w w' (fun b => b ∈ fp) := hc.mono (fun b hb => by rw [kfp]; exact List.mem_append_left _ hb)
    have hD : ∀ b, b ∈ fp → E.O b ≠ none := fun b hb => by rw [h4.oP kn se fp b hS kp hb]; simp
    have hzz := h4.zkeep hc' hD
    have hff : ∀ b ∈ f, w'.heap[b]? = w.heap[b]? := fun b hb => hc.block b (RowsE_lt k3 b hb) (fun h => hof b h hb)
    have hown : OwnE E.Y E.Z w' ⟨se.e, se.sz, se.L ++ L2, se.ns⟩ v' (v'.ownBlock.toList ++ f) :=
      ⟨xs ++ us, f, ho, RowsE_append (RowsE_mono (fun _ h => h) (fun _ h => h) h4.YZ hzz hff k3) (Rows_mono (fun _ h => h) (fun _ h => h) h4.YZ hzz m1), rfl⟩
    have hmem : ∀ b ∈ v'.ownBlock.toList ++ f, b ∈ fp ∨ w.heap.size ≤ b := fun b hb => by
      rcases List.mem_append.1 hb with hb | hb
      · rcases hat with ha | ha
        · rw [ha] at hb; exact .inl (by rw [kfp]; exact List.mem_append_left _ hb)
        · rw [ha] at hb; simp at hb; exact .inr (by omega)
      · exact .inl (by rw [kfp]; exact List.mem_append_right _ hb)
    have hnd : (v'.ownBlock.toList ++ f).Nodup := by
      rw [kfp] at hndf
      refine List.nodup_append.2 ⟨ob_nodup v', (List.nodup_append.1 hndf).2.1, fun b hb b' hb' e => ?_⟩
      subst e
      rcases hat with ha | ha
      · rw [ha] at hb; exact hof b hb hb'
      · rw [ha] at hb; simp at hb; have := RowsE_lt k3 b hb'; omega
    have hkeep : Keeps E (E.setE kn v' (v'.ownBlock.toList ++ f)) (noK kn) := keepsK rfl rfl rfl rfl
    have hsat := h4.setV (e' := ⟨se.e, se.sz, se.L ++ L2, se.ns⟩) hS k1 kp hc' hmem hnd hown hkeep (.inl (ble0_le hnv))
    refine seq_value hi (gOk_ok (o := o) h3 hg) hr (.inr rfl) ?_
    rw [hd]
    refine h _ _ w' ?_ ?_ ((fits_cut h3 h4.YZ hkeep hzz).put ?_ (by rw [h1]; exact hn)) hsat (fun s hs => by cases hs)
    · rw [(put_size _ _ _).1]; exact h1
    · rw [(put_size _ _ _).2]; exact h2
    · unfold C
      refine ⟨?_, own_one' ho⟩
      show (E.V.set kn v')[kn]? = some v'
      rw [List.getElem?_set_self (by rw [h4.lV]; exact hkl)]
  rcases m2 with ⟨b, of, hu, hc⟩ | ⟨rfl, A, hu⟩
  · obtain ⟨v', w', hr, ho, hgr, _, hat⟩ := run_append_own_at (P := c.P) w 0 t o.type se.e ti z0 se.sz ye.bytes (tyOf_elem (hT t y hy) hel) hti hz0 (hts.trans hs1) htb (hzs.trans hs1) (by rw [← hs1]; exact Nat.le_of_ble_eq_true hpos)
      v se.L.length xs k2 ⟨b, of, none⟩ L2.length cp us hls hc (Rows_ones m1) hlen.1 hlen.2 (Nat.zero_le _)
    refine fin v' w' ?_ (by rw [List.length_append]; exact ho) hgr hat
    unfold execOp
    simp only [hop, resolve, invoke, builtin, Sem.run_bind, Sem.run_pure, Result.andThen_ok, List.map_toArray, List.map_cons, List.map_nil, ← hv, hu, hr]
  · have hr := run_append_none' (P := c.P) (ty := o.type) (tyOf_elem (hT t y hy) hel) hti k2 (A := A) (cp := cp)
    have : us = [] := List.eq_nil_of_length_eq_zero (by simpa using hls)
    subst this
    refine fin v w ?_ (by simpa using k2) ⟨rfl, rfl, rfl, Nat.le_refl _, fun _ _ _ => rfl⟩ (.inl rfl)
    unfold execOp
    simp only [hop, resolve, invoke, builtin, Sem.run_bind, Sem.run_pure, Result.andThen_ok, List.map_toArray, List.map_cons, List.map_nil, ← hv, hu, hr]
/-- A nil slice is taken up as one of the call's own. -/
theorem r_adopt {e : TypeId} {sz : Nat} (hx : F.get d = some (.r (.v (.slice none 0 0)))) (hst : stLe st H.length S.length = true) (h : GR c ops kz q st sch ((d, .sl S.length) :: F) H (S ++ [some ⟨e, sz, [], false⟩])) : GR c ops kz q st sch F H S := by
  intro E a w h1 h2 h3 h4 h5
  have hsat := h4.newV (Stays.refl w) (e := ⟨e, sz, [], false⟩) (v := .slice none 0 0) (fp := []) ((OwnE_flat rfl).2 ⟨[], ⟨by simp, .inl ⟨rfl, rfl⟩⟩, by unfold Rows; rfl, rfl⟩) (by simp) (fun b hb => by simp at hb)
  have hF : Fits (E.withV (.slice none 0 0) []) w ((d, .sl S.length) :: F) a := by
    refine Fits.turn (h3.mono h4.YZ (le_V E _ _) (fun _ _ => rfl)) hx (fun u hu => ?_)
    unfold C CR at hu
    unfold C
    refine ⟨?_, by rw [hu.1]; rfl⟩
    rw [hu.1]
    show (E.V ++ [Value.slice none 0 0])[S.length]? = _
    simp [← h4.lV]
  refine h _ a w h1 h2 hF hsat (fun s hs' => ⟨(h5 s hs').1, ?_⟩)
  refine (h5 s hs').2.grow (Nat.le_refl _) (fun _ _ => rfl) (fun _ _ _ hb => hb) (fun i e' v hi' hv => ?_) (fun _ hz => hz) (fun b x _ hx => by
    have hx' : (if b ∈ ([] : List Nat) then some (Sum.inr E.V.length) else E.O b) = some x := hx
    simpa using hx')
  have hl : i < E.P.length := by
    have := (List.getElem?_eq_some_iff.1 hi').1
    have := (stLe_ok hst).2 s hs'
    rw [h4.lP]; omega
  have hv' : (E.P ++ [[]])[i]? = some v := hv
  rwa [List.getElem?_append_left hl] at hv'
theorem gi_adopt {e : TypeId} {sz : Nat} (d : Nat) (hx : F.get d = some (.r (.v (.slice none 0 0)))) (h : GI c k ((d, .sl S.length) :: F) H (S ++ [some ⟨e, sz, [], false⟩])) : GI c k F H S := by
  intro E a w h1 h2 h3 h4
  exact r_adopt (c := c) (ops := #[]) (q := none) (st := none) (sch := []) (kz := ⟨k, .it⟩) hx rfl (r_end h) E a w h1 h2 h3 h4 (fun s hs => by cases hs)
end
end Go.Proofs.Ytmocggibcniggaa.Kw
namespace Go.Proofs.Ytmocggibcniggaa.Kw
open Go
/-! ### a store to an element of an own slice -/
def setR : List RV → Nat → List RV → List RV
  | cells, _, [] => cells
  | cells, off, c :: cs => setR (cells.set off c) (off + 1) cs
theorem setR_length : ∀ (vs us : List RV) (off : Nat), (setR us off vs).length = us.length
  | [], us, off => rfl
  | v :: vs, us, off => by unfold setR; rw [setR_length vs]; simp
theorem setV_append {b : List Value} : ∀ {vs a : List Value} {off : Nat}, off + vs.length ≤ a.length → setV (a ++ b) off vs = setV a off vs ++ b
  | [], a, off, _ => rfl
  | v :: vs, a, off, h => by
    simp only [List.length_cons] at h
    unfold setV
    rw [List.set_append_left off v (by omega), setV_append (by simp; omega)]
theorem setV_skip {a : List Value} : ∀ {vs b : List Value} {o : Nat}, setV (a ++ b) (a.length + o) vs = a ++ setV b o vs
  | [], b, o => rfl
  | v :: vs, b, o => by
    unfold setV
    rw [List.set_append_right _ _ (by omega), show a.length + o - a.length = o from by omega, show a.length + o + 1 = a.length + (o + 1) from by omega, setV_skip]
theorem setV_take {m : Nat} : ∀ {vs us : List Value} {o : Nat}, (setV us o vs).take m = setV (us.take m) o vs
  | [], us, o => rfl
  | v :: vs, us, o => by
    unfold setV
    rw [setV_take, List.take_set]
section
variable {c : Ctx} {ops : Array Oper} {k : List Item} {kz : Kz} {q st : Option St} {i : Nat} {m : Md} {sch : List (Nat × Md)} {F : Fr} {H : Hp} {S : Sp} {o : Oper} {d : Nat} {r : AV} {E E' : Env} {a : Act} {w w' : World} {P : Program} {w0 : World} {X : Org} {Y Z : Nat → Prop}
theorem RL_set : ∀ {xs : List RV} {us : List Value} {i : Nat} {x : RV} {u : Value}, RL Y Z w xs us → CR Y Z w x u → RL Y Z w (xs.set i x) (us.set i u)
  | [], us, i, x, u, h, _ => by unfold RL at h; subst h; simp; unfold RL; rfl
  | y :: xs, us, i, x, u, h, hx => by
    unfold RL at h
    obtain ⟨v, r, rfl, h2, h3⟩ := h
    cases i with
    | zero => simp; unfold RL; exact ⟨u, r, rfl, hx, h3⟩
    | succ i => simp; unfold RL; exact ⟨v, _, rfl, h2, RL_set h3 hx⟩
theorem RL_setR : ∀ {rs xs : List RV} {vs us : List Value} {off : Nat}, RL Y Z w xs us → RL Y Z w rs vs → RL Y Z w (setR xs off rs) (setV us off vs)
  | [], xs, vs, us, off, h, h' => by unfold RL at h'; subst h'; exact h
  | y :: rs, xs, vs, us, off, h, h' => by
    unfold RL at h'
    obtain ⟨v, r, rfl, h2, h3⟩ := h'
    unfold setR setV
    exact RL_setR (RL_set h h2) h3
theorem Rows_setR {sz : Nat} {rs : List RV} {vs : List Value} {off : Nat} (hrs : RL Y Z w rs vs) (hle : off + vs.length ≤ sz) : ∀ {L : List (List RV)} {us : List Value} {j : Nat} {row : List RV}, Rows Y Z w sz L us → L[j]? = some row → Rows Y Z w sz (L.set j (setR row off rs)) (setV us (j * sz + off) vs)
  | [], us, j, row, _, hj => by simp at hj
  | x :: L, us, j, row, h, hj => by
    unfold Rows at h
    obtain ⟨x1, y1, rfl, h1, h2, h3⟩ := h
    have hl := RL_length h2
    cases j with
    | zero =>
      simp at hj
      subst hj
      rw [List.set_cons_zero, Nat.zero_mul, Nat.zero_add, setV_append (by omega)]
      unfold Rows
      exact ⟨_, y1, rfl, (setR_length _ _ _).trans h1, RL_setR h2 hrs, h3⟩
    | succ j =>
      simp at hj
      rw [List.set_cons_succ, show (j + 1) * sz + off = x1.length + (j * sz + off) from by rw [Nat.add_mul]; omega, setV_skip]
      unfold Rows
      exact ⟨x1, _, rfl, h1, h2, Rows_setR hrs hle h3 hj⟩
theorem ORL_set : ∀ {xs : List RV} {us : List Value} {i : Nat} {x : RV} {u : Value} {f : List Nat}, ORL Y Z w xs us f → CR Y Z w x u → ∃ g, ORL Y Z w (xs.set i x) (us.set i u) g ∧ List.Sublist g f
  | [], us, i, x, u, f, h, _ => by unfold ORL at h; rw [h.1, h.2]; exact ⟨[], by simp; unfold ORL; exact ⟨rfl, rfl⟩, List.Sublist.refl _⟩
  | y :: xs, us, i, x, u, f, h, hx => by
    unfold ORL at h
    obtain ⟨v, r, f1, f2, rfl, h2, h3, rfl⟩ := h
    cases i with
    | zero =>
      refine ⟨f2, ?_, List.sublist_append_right _ _⟩
      simp only [List.set_cons_zero]
      unfold ORL
      exact ⟨u, r, [], f2, rfl, OR_of_cr hx, h3, rfl⟩
    | succ i =>
      obtain ⟨g, h4, h5⟩ := ORL_set (i := i) h3 hx
      refine ⟨f1 ++ g, ?_, List.Sublist.append (List.Sublist.refl _) h5⟩
      simp only [List.set_cons_succ]
      unfold ORL
      exact ⟨v, _, f1, g, rfl, h2, h4, rfl⟩
theorem ORL_setR : ∀ {rs xs : List RV} {vs us : List Value} {off : Nat} {f : List Nat}, ORL Y Z w xs us f → RL Y Z w rs vs → ∃ g, ORL Y Z w (setR xs off rs) (setV us off vs) g ∧ List.Sublist g f
  | [], xs, vs, us, off, f, h, h' => by unfold RL at h'; subst h'; exact ⟨f, h, List.Sublist.refl _⟩
  | y :: rs, xs, vs, us, off, f, h, h' => by
    unfold RL at h'
    obtain ⟨v, r, rfl, h2, h3⟩ := h'
    unfold setR setV
    obtain ⟨g, h4, h5⟩ := ORL_set (i := off) h h2
    obtain ⟨g', h6, h7⟩ := ORL_setR (off := off + 1) h4 h3
    exact ⟨g', h6, h7.trans h5⟩
theorem ORows_setR {sz : Nat} {rs : List RV} {vs : List Value} {off : Nat} (hrs : RL Y Z w rs vs) (hle : off + vs.length ≤ sz) : ∀ {L : List (List RV)} {us : List Value} {j : Nat} {row : List RV} {f : List Nat}, ORows Y Z w sz L us f → L[j]? = some row → ∃ g, ORows Y Z w sz (L.set j (setR row off rs)) (setV us (j * sz + off) vs) g ∧ List.Sublist g f
  | [], us, j, row, f, _, hj => by simp at hj
  | x :: L, us, j, row, f, h, hj => by
    unfold ORows at h
    obtain ⟨x1, y1, f1, f2, rfl, h1, h2, h3, rfl⟩ := h
    have hl := ORL_length h2
    cases j with
    | zero =>
      simp at hj
      subst hj
      rw [List.set_cons_zero, Nat.zero_mul, Nat.zero_add, setV_append (by omega)]
      obtain ⟨g, h4, h5⟩ := ORL_setR (off := off) h2 hrs
      refine ⟨g ++ f2, ?_, List.Sublist.append h5 (List.Sublist.refl _)⟩
      unfold ORows
      exact ⟨_, y1, g, f2, rfl, (setR_length _ _ _).trans h1, h4, h3, rfl⟩
    | succ j =>
      simp at hj
      rw [List.set_cons_succ, show (j + 1) * sz + off = x1.length + (j * sz + off) from by rw [Nat.add_mul]; omega, setV_skip]
      obtain ⟨g, h4, h5⟩ := ORows_setR hrs hle h3 hj
      refine ⟨f1 ++ g, ?_, List.Sublist.append (List.Sublist.refl _) h5⟩
      unfold ORows
      exact ⟨x1, _, f1, g, rfl, h1, h2, h4, rfl⟩
theorem RowsE_setR {e : SE} {rs : List RV} {vs cs : List Value} {off j : Nat} {row : List RV} {f : List Nat} (hrs : RL Y Z w rs vs) (hle : off + vs.length ≤ e.sz) (h : RowsE Y Z w e cs f) (hj : e.L[j]? = some row) : ∃ g, RowsE Y Z w ⟨e.e, e.sz, e.L.set j (setR row off rs), e.ns⟩ (setV cs (j * e.sz + off) vs) g ∧ List.Sublist g f := by
  unfold RowsE at h ⊢
  cases hn : e.ns with
  | false => rw [hn] at h; exact ⟨[], ⟨Rows_setR hrs hle h.1 hj, rfl⟩, by simp⟩
  | true => rw [hn] at h; exact ORows_setR hrs hle h hj
theorem r_storeS {t : TypeId} {y : Ty} {x z : Operand} {kn sz j off : Nat} {se : SE} {row rs : List RV} {v : AV} {ds : List AV} (hT : TabOk c.P c.T) (hi : ops[i]? = some o) (hop : o.op = .store t x z) (hd : o.dst = none) (hg : gOk ops F o.guard = some true)
    (hx : ev F x = some (.el kn sz j off)) (hz : ev F z = some v) (hv : cellsA v = some ds) (hrs : rvL ds = some rs) (hS : S[kn]? = some (some se)) (hsz : se.sz = sz) (hy : c.T.get t = some y) (hl : Nat.beq ds.length y.size = true) (hle : Nat.ble (off + y.size) se.sz = true) (hr : se.L[j]? = some row)
    (h : GR c ops kz q none sch F H (S.set kn (some ⟨se.e, se.sz, se.L.set j (setR row off rs), se.ns⟩))) : GR c ops kz q st ((i, .l) :: sch) F H S := by
  intro E a w h1 h2 h3 h4 h5
  subst hsz
  have hl1 : ds.length = y.size := Nat.eq_of_beq_eq_true hl
  have hl2 := Nat.le_of_ble_eq_true hle
  obtain ⟨vs, e1, e2, e3⟩ := cellsA_ok hv (h3.ev hz)
  obtain ⟨g1, g2⟩ := rvL_ok hrs e2
  have hvs : vs.length = y.size := (CL_length e2).trans hl1
  obtain ⟨u, fp, k1, kp, xs, f, k2, k3, kfp⟩ := h4.sl kn se hS
  have hp := h3.ev hx
  unfold C at hp
  obtain ⟨b, n, cap, hub, hpv⟩ := hp
  rw [k1] at hub
  cases hub
  have hj := (List.getElem?_eq_some_iff.1 hr).1
  have hndf := h4.PN kn se fp hS kp
  obtain ⟨hxl, hc⟩ := k2
  rcases hc with ⟨hc, _⟩ | ⟨g, cp, cur, hc, h0, hh, hn1, hn2, hcs, hct⟩
  · cases hc
  · cases hc
    have hbfp : b ∈ fp := by rw [kfp]; simp [Value.ownBlock]
    have hbf : b ∉ f := fun hbf => by
      rw [kfp] at hndf
      exact (List.nodup_append.1 hndf).2.2 b (by simp [Value.ownBlock]) b hbf rfl
    have hroom : j * se.sz + off + y.size ≤ cur.toList.length := by
      rw [Array.length_toList, hcs]
      have : (j + 1) * se.sz ≤ cap * se.sz := Nat.mul_le_mul_right _ (by omega)
      rw [Nat.add_mul] at this
      omega
    obtain ⟨w', m1, m2, m3, m4, m5, m6, m7⟩ := run_storeVar (hT t y hy) (b := b) (o := j * se.sz + off) (us := cur.toList) (by simpa using hh) e1 hvs e3 hroom
    have hc1 : Chg w w' (fun x => x = b) := ⟨by omega, fun kk _ hne => m3 kk hne, m5, m6, m7, run_drawn _ _ _ _ m1⟩
    have hc' : Chg w w' (fun x => x ∈ fp) := hc1.mono (fun x hx => by rw [hx]; exact hbfp)
    have hD : ∀ b, b ∈ fp → E.O b ≠ none := fun b hb => by rw [h4.oP kn se fp b hS kp hb]; simp
    have hzz := h4.zkeep hc' hD
    have hff : ∀ x ∈ f, w'.heap[x]? = w.heap[x]? := fun x hx => m3 x (fun e => hbf (e ▸ hx))
    obtain ⟨g, hg1, hg2⟩ := RowsE_setR (rs := rs) (off := off) g1 (by omega) k3 hr
    have hrows := RowsE_mono (fun _ h => h) (fun _ h => h) h4.YZ hzz (fun x hx => hff x (hg2.subset hx)) hg1
    have hxs : xs = cur.toList.take (se.L.length * se.sz) := hct.symm
    have hown : OwnE E.Y E.Z w' ⟨se.e, se.sz, se.L.set j (setR row off rs), se.ns⟩ (.slice (some ⟨b, 0, none⟩) se.L.length cap) ((Value.ownBlock (.slice (some ⟨b, 0, none⟩) se.L.length cap)).toList ++ g) :=
      ⟨setV xs (j * se.sz + off) vs, g, ⟨by rw [setV_length, hxl]; simp, .inr ⟨b, cap, List.toArray (setV cur.toList (j * se.sz + off) vs), by simp, h0, m2, by simpa using hn1, hn2, by simp [setV_length, hcs], by simp [setV_take, hxs]⟩⟩, hrows, rfl⟩
    have hmem : ∀ x ∈ (Value.ownBlock (.slice (some ⟨b, 0, none⟩) se.L.length cap)).toList ++ g, x ∈ fp ∨ w.heap.size ≤ x := fun x hx => by
      left
      rw [kfp]
      rcases List.mem_append.1 hx with hx | hx
      · exact List.mem_append_left _ hx
      · exact List.mem_append_right _ (hg2.subset hx)
    have hnd : ((Value.ownBlock (.slice (some ⟨b, 0, none⟩) se.L.length cap)).toList ++ g).Nodup := by
      rw [kfp] at hndf
      exact hndf.sublist (List.Sublist.append (List.Sublist.refl _) hg2)
    have hsat := h4.updV (e' := ⟨se.e, se.sz, se.L.set j (setR row off rs), se.ns⟩) hS k1 kp hc' hmem hnd hown
    refine seq_skip hi (gOk_ok (o := o) h3 hg) (w' := w') ?_ (.inr rfl) ?_
    · unfold execOp
      simp only [hop, hpv, Instr.storeAt, Instr.sureAddr, pure_bind, Sem.run_bind, m1, Result.andThen_ok, Sem.run_pure]
    · rw [hd]
      have hkeep := keepsPO h4.YZ k1 ((Value.ownBlock (.slice (some ⟨b, 0, none⟩) se.L.length cap)).toList ++ g)
      refine h _ a w' h1 h2 ⟨fun d x hx => ?_⟩ hsat (fun s hs => by cases hs)
      obtain ⟨u', q1, q2⟩ := h3.get d x hx
      exact ⟨u', q1, hkeep w' x u' rfl (C_mono h4.YZ (Env.le_refl E) hzz x u' q2)⟩
end
end Go.Proofs.Ytmocggibcniggaa.Kw
namespace Go.Proofs.Ytmocggibcniggaa.Kw
open Go
section
variable {c : Ctx} {ops : Array Oper} {k : List Item} {kz : Kz} {q st : Option St} {i : Nat} {m : Md} {sch : List (Nat × Md)} {F : Fr} {H : Hp} {S : Sp} {o : Oper} {d : Nat} {r : AV} {E E' : Env} {a : Act} {w w' : World} {P : Program} {w0 : World} {X : Org} {Y Z : Nat → Prop}
theorem rs_of_fs {sz : Nat} {L : List (List RV)} {u : Value} (hyz : ∀ b, Y b → Z b) (h : CR Y Z w (.fs sz L) u) : CR Y Z w (.rs sz L) u := by
  unfold CR at h ⊢
  obtain ⟨A, c, h1, h2, h3, h4⟩ := h
  refine ⟨A, c, h1, h2, h3, ?_⟩
  rcases h4 with h4 | ⟨b, o, h5, h6, h7⟩
  · exact .inl h4
  · exact .inr ⟨b, o, h5, hyz b h6, h7⟩
theorem fits_fz {kn : Nat} {x : RV} {v : Value} (hF : Fits E w F a) (hyz : ∀ b, E.Y b → E.Z b) (hE : E.le E') (hv : E.V[kn]? = some v) (hx : CR E'.Y E'.Z w x v) : Fits E' w (fzF kn x F) a := by
  refine ⟨fun d y hy => ?_⟩
  obtain ⟨z, h1, rfl⟩ := fzF_get hy
  obtain ⟨u, h2, h3⟩ := hF.get d z h1
  exact ⟨u, h2, C_fz hyz hE hv hx z u h3⟩
/-- SLICE kn IS FROZEN: whoever led to it reads it. -/
theorem gi_freeze (kn : Nat) {se : SE} {L' : List (List RV)} (hS : S[kn]? = some (some se)) (hL : frzE se = L') (h : GI c k (fzF kn (.fs se.sz L') F) (fzH kn (.fs se.sz L') H) (S.set kn none)) : GI c k F H S := by
  intro E a w h1 h2 h3 h4
  subst hL
  obtain ⟨v, fp, k1, kp, ho⟩ := h4.sl kn se hS
  obtain ⟨hs, hcr, hle⟩ := h4.freeze hS k1 kp ho
  exact h _ a w h1 h2 (fits_fz h3 h4.YZ hle k1 hcr) hs
theorem r_freeze (kn : Nat) {se : SE} {L' : List (List RV)} (hS : S[kn]? = some (some se)) (hL : frzE se = L') (h : GR c ops kz q none sch (fzF kn (.fs se.sz L') F) (fzH kn (.fs se.sz L') H) (S.set kn none)) : GR c ops kz q none sch F H S := by
  intro E a w h1 h2 h3 h4 h5
  subst hL
  obtain ⟨v, fp, k1, kp, ho⟩ := h4.sl kn se hS
  obtain ⟨hs, hcr, hle⟩ := h4.freeze hS k1 kp ho
  exact h _ a w h1 h2 (fits_fz h3 h4.YZ hle k1 hcr) hs (fun s hs => by cases hs)
/-- What is frozen may be read. -/
theorem r_thaw {sz : Nat} {L : List (List RV)} (d : Nat) (hx : F.get d = some (.r (.fs sz L))) (h : GR c ops kz q st sch ((d, .r (.rs sz L)) :: F) H S) : GR c ops kz q st sch F H S :=
  fun E a w h1 h2 h3 h4 h5 => h E a w h1 h2 (h3.turn hx (fun _ hu => by unfold C at hu ⊢; exact rs_of_fs h4.YZ hu)) h4 h5
theorem gi_thaw {sz : Nat} {L : List (List RV)} (d : Nat) (hx : F.get d = some (.r (.fs sz L))) (h : GI c k ((d, .r (.rs sz L)) :: F) H S) : GI c k F H S :=
  fun E a w h1 h2 h3 h4 => h E a w h1 h2 (h3.turn hx (fun _ hu => by unfold C at hu ⊢; exact rs_of_fs h4.YZ hu)) h4
/-! ### a part of a slice that is read -/
theorem CRows_drop {sz b : Nat} : ∀ (n : Nat) {L : List (List RV)} {o : Nat}, CRows Y Z w sz L b o → CRows Y Z w sz (L.drop n) b (o + n * sz)
  | 0, L, o, h => by simpa using h
  | n + 1, [], o, h => by simp; unfold CRows; trivial
  | n + 1, x :: L, o, h => by
    unfold CRows at h
    have := CRows_drop n h.2.2
    rw [List.drop_succ_cons, show o + (n + 1) * sz = o + sz + n * sz from by rw [Nat.add_mul]; omega]
    exact this
theorem CRows_take {sz b : Nat} : ∀ (n : Nat) {L : List (List RV)} {o : Nat}, CRows Y Z w sz L b o → CRows Y Z w sz (L.take n) b o
  | 0, L, o, h => by simp; unfold CRows; trivial
  | n + 1, [], o, h => by simp; unfold CRows; trivial
  | n + 1, x :: L, o, h => by
    unfold CRows at h
    rw [List.take_succ_cons]
    unfold CRows
    exact ⟨h.1, h.2.1, CRows_take n h.2.2⟩
def evO (F : Fr) (dflt : Nat) : Option Operand → Option Int
  | none => some dflt
  | some x => match ev F x with
    | some (.r (.v (.int _ n))) => some n
    | _ => none
def bndV (a : Act) : Option Operand → Option Value
  | none => none
  | some x => some (a.eval x)
theorem evO_ok (hF : Fits E w F a) {dflt : Nat} {x : Option Operand} {n : Int} (h : evO F dflt x = some n) : (x = none ∧ n = dflt) ∨ ∃ y k, x = some y ∧ a.eval y = .int k n := by
  cases x with
  | none => simp only [evO, Option.some.injEq] at h; exact .inl ⟨rfl, h.symm⟩
  | some y =>
    simp only [evO] at h
    split at h
    · rename_i kk n' hy
      cases h
      exact .inr ⟨y, kk, rfl, C_v (hF.ev hy)⟩
    · cases h
/-- A cut's value. -/
theorem run_slice {t e : TypeId} {ti : TypeInfo} {A : Option Addr} {n cp : Nat} {lo hi : Option Operand} {l h : Int} (ht : P.underlying t = some (.slice e)) (he : P.info? e = some ti) (hF : Fits E w F a) (hlo : evO F 0 lo = some l) (hhi : evO F n hi = some h)
    (h0 : 0 ≤ l) (h1 : l ≤ h) (h2 : h ≤ cp) (w' : World) :
    (Instr.sliceAt t (.slice A n cp) (lo.map a.eval) (hi.map a.eval) none).run P w' = .ok (.slice (if cp = l.toNat then A else A.map (·.add (l.toNat * ti.size))) (h.toNat - l.toNat) (cp - l.toNat)) w' := by
  have hh : (Instr.sliceBounds true n cp (lo.map a.eval) (hi.map a.eval) none).run P w' = .ok (l.toNat, h.toNat, cp) w' := by
    unfold Instr.sliceBounds
    rcases evO_ok hF hhi with ⟨rfl, e1⟩ | ⟨y, kk, rfl, e1⟩ <;> rcases evO_ok hF hlo with ⟨rfl, e2⟩ | ⟨z, kk', rfl, e2⟩
    · subst e1 e2
      simp
    · subst e1
      simp only [Option.map_none, Option.map_some, Sem.run_bind, Sem.run_pure, Result.andThen_ok]
      simp [Instr.sliceBound, e2, asIntOf, h0, h1]
    · subst e2
      simp only [Option.map_none, Option.map_some, Sem.run_bind, Sem.run_pure, Result.andThen_ok]
      have : 0 ≤ h ∧ h ≤ (cp : Int) := ⟨by omega, h2⟩
      simp [Instr.sliceBound, e1, asIntOf, this]
    · simp only [Option.map_none, Option.map_some, Sem.run_bind, Sem.run_pure, Result.andThen_ok]
      have : 0 ≤ h ∧ h ≤ (cp : Int) := ⟨by omega, h2⟩
      have h3 : 0 ≤ l ∧ l ≤ ((h.toNat : Nat) : Int) := ⟨h0, by omega⟩
      simp only [Instr.sliceBound, e1, e2, asIntOf, pure_bind, if_pos this, if_pos h3, Sem.run_pure, Result.andThen_ok, Option.isSome_none, Bool.false_eq_true, if_false]
  unfold Instr.sliceAt
  simp only [Sem.run_bind, run_underlying_ ht, Result.andThen_ok]
  unfold Instr.slice
  simp only [Sem.run_bind, run_underlying_ ht, Result.andThen_ok, hh, run_sizeOf_ he, Sem.run_pure]
theorem slice_cr {sz : Nat} {L : List (List RV)} {A : Option Addr} {cp l h : Nat} (h1 : l ≤ h) (h2 : h ≤ L.length) (hlc : L.length ≤ cp) (hm : cp ≤ maxLen) {Q : Nat → Prop} (hc : L = [] ∨ ∃ b o, A = some ⟨b, o, none⟩ ∧ Q b ∧ CRows Y Z w sz L b o) :
    ∃ A' c', (if cp = l then A else A.map (·.add (l * sz))) = A' ∧ c' = cp - l ∧ ((L.drop l).take (h - l)).length = h - l ∧ h - l ≤ c' ∧ c' ≤ maxLen ∧ ((L.drop l).take (h - l) = [] ∨ ∃ b o, A' = some ⟨b, o, none⟩ ∧ Q b ∧ CRows Y Z w sz ((L.drop l).take (h - l)) b o) := by
  refine ⟨_, _, rfl, rfl, by simp; omega, by omega, by omega, ?_⟩
  by_cases he : cp = l
  · left
    rw [show h - l = 0 by omega]; simp
  · rw [if_neg he]
    rcases hc with rfl | ⟨b, o, rfl, hq, hc⟩
    · left; simp
    · right
      refine ⟨b, o + l * sz, ?_, hq, CRows_take _ (CRows_drop l hc)⟩
      simp [add_at]
theorem r_sliceF {t e : TypeId} {y ye : Ty} {x : Operand} {lo hi : Option Operand} {sz : Nat} {L L' : List (List RV)} {l h : Int} (hT : TabOk c.P c.T) (hi' : ops[i]? = some o) (hop : o.op = .slice t x lo hi none) (hd : o.dst = some d) (hn : Nat.blt d c.n = true) (hg : gOk ops F o.guard = some true) (hm : mOk m st = true)
    (hx : ev F x = some (.r (.fs sz L))) (hlo : evO F 0 lo = some l) (hhi : evO F L.length hi = some h) (hy : c.T.get t = some y) (hel : y.elem = some e) (hye : c.T.get e = some ye) (hsz : ye.size = sz) (hb : 0 ≤ l ∧ l ≤ h ∧ h ≤ L.length) (hL : (L.drop l.toNat).take (h.toNat - l.toNat) = L')
    (hk : GR c ops kz q st sch ((d, .r (.fs sz L')) :: F) H S) : GR c ops kz q st ((i, m) :: sch) F H S := by
  refine r_ans hi' hd hn hg hm (fun E a w h3 h4 => ?_) hk
  subst hL
  have hv := h3.ev hx
  unfold C CR at hv
  obtain ⟨A, cp, hu, h5, h6, h7⟩ := hv
  obtain ⟨ti, z, hti, hts, _⟩ := tyOf_zero (hT e ye hye)
  obtain ⟨A', c', e1, e2, e3, e4, e5, e6⟩ := slice_cr (l := l.toNat) (h := h.toNat) (by omega) (by omega) h5 h6 h7
  refine ⟨.slice A' (h.toNat - l.toNat) c', ?_, ans_v (s := Instr.sliceAt t (a.eval x) (lo.map a.eval) (hi.map a.eval) none) (by unfold execOp; simp only [hop, Option.map_none]) (fun w' => ?_)⟩
  · unfold C CR
    exact ⟨A', c', by rw [e3], by rw [e3]; exact e4, e5, e6⟩
  · rw [hu, run_slice (tyOf_elem (hT t y hy) hel) hti h3 hlo hhi hb.1 hb.2.1 (by omega), ← e1, e2, hts, hsz]
/-! ### quotients by what is not written out; shifts -/
theorem r_rem {t t' : TypeId} {x z : Operand} {kk : IntKind} {p p' n : Int} (hi' : ops[i]? = some o) (hop : o.op = .binOp .rem t x z t') (hd : o.dst = some d) (hn : Nat.blt d c.n = true) (hg : gOk ops F o.guard = some true) (hm : mOk m st = true)
    (hx : ev F x = some (.r (.v (.int kk p)))) (hz : ev F z = some (.r (.v (.int kk p')))) (h0 : p' ≠ 0) (hr : rm p p' = n) (hk : GR c ops kz q st sch ((d, .r (.v (.int kk n))) :: F) H S) : GR c ops kz q st ((i, m) :: sch) F H S := by
  refine r_ans hi' hd hn hg hm (fun E a w h3 h4 => ?_) hk
  have e1 := C_v (h3.ev hx)
  have e2 := C_v (h3.ev hz)
  refine ⟨_, C_v_mk rfl, ans_v (s := do eqGuard .rem t x z (a.eval x) (a.eval z); binOp .rem t (a.eval x) (a.eval z)) (by unfold execOp; simp only [hop]) (fun w' => ?_)⟩
  rw [e1, e2, Sem.run_bind, eqGuard_int, Result.andThen_ok, binOp_rem]
  simp [Op.intDiv, h0, ← hr, rm_eq]
/-- A shift to the right. -/
theorem r_shr {t t' : TypeId} {x z : Operand} {kk k2 : IntKind} {p p' n : Int} (hi' : ops[i]? = some o) (hop : o.op = .binOp .shr t x z t') (hd : o.dst = some d) (hn : Nat.blt d c.n = true) (hg : gOk ops F o.guard = some true) (hm : mOk m st = true)
    (hx : ev F x = some (.r (.v (.int kk p)))) (hz : ev F z = some (.r (.v (.int k2 p')))) (h0 : 0 ≤ p') (hr : p.fdiv (2 ^ (min p'.toNat kk.bits)) = n) (hk : GR c ops kz q st sch ((d, .r (.v (.int kk n))) :: F) H S) : GR c ops kz q st ((i, m) :: sch) F H S := by
  refine r_ans hi' hd hn hg hm (fun E a w h3 h4 => ?_) hk
  have e1 := C_v (h3.ev hx)
  have e2 := C_v (h3.ev hz)
  refine ⟨_, C_v_mk rfl, ans_v (s := do eqGuard .shr t x z (a.eval x) (a.eval z); binOp .shr t (a.eval x) (a.eval z)) (by unfold execOp; simp only [hop]) (fun w' => ?_)⟩
  rw [e1, e2, Sem.run_bind, eqGuard_int, Result.andThen_ok]
  unfold binOp Op.shift
  simp only [if_neg (Int.not_lt.2 h0), hr, Sem.run_pure]
theorem r_shl {t t' : TypeId} {x z : Operand} {kk k2 : IntKind} {p p' n : Int} (hi' : ops[i]? = some o) (hop : o.op = .binOp .shl t x z t') (hd : o.dst = some d) (hn : Nat.blt d c.n = true) (hg : gOk ops F o.guard = some true) (hm : mOk m st = true)
    (hx : ev F x = some (.r (.v (.int kk p)))) (hz : ev F z = some (.r (.v (.int k2 p')))) (h0 : 0 ≤ p') (hr : wr kk (p * 2 ^ (min p'.toNat kk.bits)) = n) (hk : GR c ops kz q st sch ((d, .r (.v (.int kk n))) :: F) H S) : GR c ops kz q st ((i, m) :: sch) F H S := by
  refine r_ans hi' hd hn hg hm (fun E a w h3 h4 => ?_) hk
  have e1 := C_v (h3.ev hx)
  have e2 := C_v (h3.ev hz)
  refine ⟨_, C_v_mk rfl, ans_v (s := do eqGuard .shl t x z (a.eval x) (a.eval z); binOp .shl t (a.eval x) (a.eval z)) (by unfold execOp; simp only [hop]) (fun w' => ?_)⟩
  rw [e1, e2, Sem.run_bind, eqGuard_int, Result.andThen_ok]
  rw [wr_eq] at hr
  unfold binOp Op.shift
  simp only [if_neg (Int.not_lt.2 h0), hr, Sem.run_pure]
/-- The state is written otherwise. -/
theorem gi_eqS (S' : Sp) (hS : S = S') (h : GI c k F H S') : GI c k F H S := hS ▸ h
theorem r_eqS (S' : Sp) (hS : S = S') (h : GR c ops kz q st sch F H S') : GR c ops kz q st sch F H S := hS ▸ h
end
end Go.Proofs.Ytmocggibcniggaa.Kw
namespace Go.Proofs.Ytmocggibcniggaa.Kw
open Go
/-! ### parts of an own slice, written in place -/
section
variable {c : Ctx} {ops : Array Oper} {k : List Item} {kz : Kz} {q st : Option St} {i : Nat} {m : Md} {sch : List (Nat × Md)} {F : Fr} {H : Hp} {S : Sp} {o : Oper} {d : Nat} {r : AV} {E E' : Env} {a : Act} {w w' : World} {P : Program} {w0 : World} {X : Org} {Y Z : Nat → Prop}
theorem Rows_take {sz : Nat} : ∀ (n : Nat) {L : List (List RV)} {us : List Value}, Rows Y Z w sz L us → Rows Y Z w sz (L.take n) (us.take (n * sz))
  | 0, L, us, h => by simp; unfold Rows; rfl
  | n + 1, [], us, h => by unfold Rows at h; subst h; simp; unfold Rows; rfl
  | n + 1, x :: L, us, h => by
    unfold Rows at h
    obtain ⟨a, b, rfl, h1, h2, h3⟩ := h
    have hl := RL_length h2
    rw [List.take_succ_cons, show (n + 1) * sz = a.length + n * sz from by rw [hl, h1, Nat.add_mul]; omega, List.take_length_add_append]
    unfold Rows
    exact ⟨a, _, rfl, h1, h2, Rows_take n h3⟩
theorem Rows_drop {sz : Nat} : ∀ (n : Nat) {L : List (List RV)} {us : List Value}, Rows Y Z w sz L us → Rows Y Z w sz (L.drop n) (us.drop (n * sz))
  | 0, L, us, h => by simpa using h
  | n + 1, [], us, h => by unfold Rows at h; subst h; simp; unfold Rows; rfl
  | n + 1, x :: L, us, h => by
    unfold Rows at h
    obtain ⟨a, b, rfl, h1, h2, h3⟩ := h
    have hl := RL_length h2
    rw [List.drop_succ_cons, show (n + 1) * sz = a.length + n * sz from by rw [hl, h1, Nat.add_mul]; omega, ← List.drop_drop, List.drop_left]
    exact Rows_drop n h3
/-- The rows behind a write. -/
def wrL (L : List (List RV)) (a : Nat) (R : List (List RV)) : List (List RV) := L.take a ++ R ++ L.drop (a + R.length)
/-- ROWS ARE WRITTEN INTO AN OWN SLICE'S MEMORY, up to its capacity. -/
theorem Sat.write (h : Sat w0 X E H S w) {kn : Nat} {se : SE} {g cp at_ : Nat} {R : List (List RV)} {news : List Value} (hS : S[kn]? = some (some se)) (hns : se.ns = false) (hv : E.V[kn]? = some (.slice (some ⟨g, 0, none⟩) se.L.length cp))
    (hR : Rows E.Y E.Z w se.sz R news) (ha : at_ ≤ se.L.length) (hroom : at_ + R.length ≤ cp) (hnv : X.nv ≤ kn) :
    ∃ w' fp, (storeCells ⟨g, at_ * se.sz, none⟩ news 0).run P w = .ok () w' ∧ E.P[kn]? = some fp ∧ (∀ b, E.Z b → w'.heap[b]? = w.heap[b]?) ∧
      Sat w0 X (E.setE kn (.slice (some ⟨g, 0, none⟩) (wrL se.L at_ R).length cp) fp) (cutHP (noS kn) H) (S.set kn (some ⟨se.e, se.sz, wrL se.L at_ R, false⟩)) w' ∧
      ((wrL se.L at_ R).length = se.L.length → Sat w0 X (E.setE kn (.slice (some ⟨g, 0, none⟩) se.L.length cp) fp) H (S.set kn (some ⟨se.e, se.sz, wrL se.L at_ R, false⟩)) w') := by
  obtain ⟨v, fp, k1, kp, ho⟩ := h.sl kn se hS
  rw [hv] at k1
  cases k1
  obtain ⟨xs, k2, k3, kfp⟩ := (OwnE_flat hns).1 ho
  obtain ⟨hxl, hc⟩ := k2
  rcases hc with ⟨hc, _⟩ | ⟨g', cp', cur, hc, h0, hh, hn1, hn2, hcs, hct⟩
  · cases hc
  · cases hc
    have hls := Rows_length hR
    have h1 : at_ * se.sz + news.length ≤ cp * se.sz := by
      rw [hls, ← Nat.add_mul]; exact Nat.mul_le_mul_right _ hroom
    have hst := run_storeCells_at P g (at_ * se.sz) se.e news 0 cur w hh (by rw [hcs]; omega) (Rows_ones hR)
    simp only [Nat.add_zero] at hst
    have hheap := setRow_heap w g cur (cur.toList.take (at_ * se.sz) ++ news ++ cur.toList.drop (at_ * se.sz + news.length)).toArray se.e (0, 0) hh
    have hc1 : Chg w (w.setRow g (cur.toList.take (at_ * se.sz) ++ news ++ cur.toList.drop (at_ * se.sz + news.length)).toArray) (fun x => x = g) := ⟨by simp, fun b _ hne => setRow_other w g b _ hne, rfl, rfl, rfl, Nat.le_refl _⟩
    have hgfp : g ∈ fp := by rw [kfp]; simp [Value.ownBlock]
    have hc' := hc1.mono (q := fun x => x ∈ fp) (fun x hx => by rw [hx]; exact hgfp)
    have hD : ∀ b, b ∈ fp → E.O b ≠ none := fun b hb => by rw [h.oP kn se fp b hS kp hb]; simp
    have hzz := h.zkeep hc' hD
    have hrows : Rows E.Y E.Z (w.setRow g (cur.toList.take (at_ * se.sz) ++ news ++ cur.toList.drop (at_ * se.sz + news.length)).toArray) se.sz (wrL se.L at_ R) (xs.take (at_ * se.sz) ++ news ++ xs.drop (at_ * se.sz + news.length)) := by
      have r1 := Rows_append (Rows_append (Rows_take at_ k3) hR) (Rows_drop (at_ + R.length) k3)
      rw [Nat.add_mul, ← hls] at r1
      exact Rows_mono (fun _ h => h) (fun _ h => h) h.YZ hzz r1
    have hxc : xs = cur.toList.take (se.L.length * se.sz) := hct.symm
    have hlen : (wrL se.L at_ R).length = at_ + R.length + (se.L.length - (at_ + R.length)) := by
      unfold wrL
      simp only [List.length_append, List.length_take, List.length_drop]
      omega
    have hown : (w.setRow g (cur.toList.take (at_ * se.sz) ++ news ++ cur.toList.drop (at_ * se.sz + news.length)).toArray).ownsRow 0 se.e se.sz (.slice (some ⟨g, 0, none⟩) (wrL se.L at_ R).length cp) (wrL se.L at_ R).length (xs.take (at_ * se.sz) ++ news ++ xs.drop (at_ * se.sz + news.length)) := by
      have e1 : at_ * se.sz ≤ se.L.length * se.sz := Nat.mul_le_mul_right _ ha
      have e2 : se.L.length * se.sz ≤ cur.toList.length := by rw [Array.length_toList, hcs]; exact Nat.mul_le_mul_right _ hn1
      have e3 : at_ * se.sz + news.length = (at_ + R.length) * se.sz := by rw [hls, Nat.add_mul]
      refine ⟨Rows_length hrows, .inr ⟨g, cp, _, rfl, h0, hheap, by rw [hlen]; omega, hn2, ?_, ?_⟩⟩
      · rw [Array.length_toList] at e2
        simp only [List.size_toArray, List.length_append, List.length_take, List.length_drop, Array.length_toList]
        rw [hcs] at *
        omega
      · rw [hlen, Nat.add_mul, ← e3, hxc]
        simp only [List.toList_toArray]
        have e4 : List.take (at_ * se.sz) (List.take (se.L.length * se.sz) cur.toList) = List.take (at_ * se.sz) cur.toList := by rw [List.take_take, Nat.min_eq_left e1]
        rw [e4]
        have e5 : (List.take (at_ * se.sz) cur.toList ++ news).length = at_ * se.sz + news.length := by simp; omega
        rw [← e5, List.take_length_add_append]
        congr 1
        rw [e5]
        have e6 : (se.L.length - (at_ + R.length)) * se.sz = se.L.length * se.sz - (at_ * se.sz + news.length) := by rw [Nat.sub_mul, e3]
        rw [e6, List.drop_take]
    have hb : ∀ (n' : Nat), ∀ b ∈ fp, b ∈ fp ∨ w.heap.size ≤ b := fun _ b hb => .inl hb
    have hnd := h.PN kn se fp hS kp
    have hOwn : OwnE E.Y E.Z (w.setRow g (cur.toList.take (at_ * se.sz) ++ news ++ cur.toList.drop (at_ * se.sz + news.length)).toArray) ⟨se.e, se.sz, wrL se.L at_ R, false⟩ (.slice (some ⟨g, 0, none⟩) (wrL se.L at_ R).length cp) fp :=
      (OwnE_flat rfl).2 ⟨_, hown, hrows, by rw [kfp]; rfl⟩
    refine ⟨_, fp, hst, kp, hzz, ?_, fun hleq => ?_⟩
    · exact h.setV hS hv kp hc' (hb 0) hnd hOwn (keepsS rfl hv ⟨_, _, _, _, rfl, rfl⟩ rfl rfl rfl) (.inl hnv)
    · rw [hleq] at hOwn
      exact h.updV hS hv kp hc' (hb 0) hnd hOwn
end
end Go.Proofs.Ytmocggibcniggaa.Kw
namespace Go.Proofs.Ytmocggibcniggaa.Kw
open Go
section
variable {c : Ctx} {ops : Array Oper} {k : List Item} {kz : Kz} {q st : Option St} {i : Nat} {m : Md} {sch : List (Nat × Md)} {F : Fr} {H : Hp} {S : Sp} {o : Oper} {d : Nat} {r : AV} {E E' : Env} {a : Act} {w w' : World} {P : Program} {w0 : World} {X : Org} {Y Z : Nat → Prop}
/-- What is forgotten where a slice's memory is written: who asks for its length, if that turns. -/
def CutOk (kn : Nat) (L L' : List (List RV)) (p : AV → Bool) : Prop := p = noS kn ∨ (p = allP ∧ L'.length = L.length)
end
end Go.Proofs.Ytmocggibcniggaa.Kw
namespace Go.Proofs.Ytmocggibcniggaa.Kw
open Go
/-! ### zero rows; append within a slice's memory; clear; what a slice may yet take -/
def zRow : List Value → List RV
  | [] => []
  | v :: vs => .v v :: zRow vs
theorem zRow_length : ∀ (l : List Value), (zRow l).length = l.length
  | [] => rfl
  | _ :: l => by simp [zRow, zRow_length l]
theorem zc_flat (z : Array Value) (hz : 0 < z.size) : ∀ (n : Nat), ((List.range (n * z.size)).map fun i => z[i % z.size]!) = (List.replicate n z.toList).flatten
  | 0 => by simp
  | n + 1 => by
    rw [show (n + 1) * z.size = z.size + n * z.size from by rw [Nat.add_mul]; omega, List.range_add, List.map_append, List.map_map, List.replicate_succ, List.flatten_cons, ← zc_flat z hz n]
    congr 1
    · apply List.ext_getElem?
      intro j
      by_cases hj : j < z.size
      · simp [hj, Nat.mod_eq_of_lt hj]
      · simp [hj]
    · refine List.map_congr_left (fun i _ => ?_)
      simp
theorem madeCells_flat (z : Array Value) (hz : 0 < z.size) (n : Nat) : (madeCells z (n * z.size)).toList = (List.replicate n z.toList).flatten := by
  unfold madeCells
  rw [← zc_flat z hz n]
  simp
section
variable {Y Z : Nat → Prop} {w : World}
theorem RL_zRow : ∀ {l : List Value}, allOne l = true → RL Y Z w (zRow l) l
  | [], _ => by unfold zRow RL; rfl
  | v :: l, h => by
    unfold allOne at h
    rw [Bool.and_eq_true] at h
    unfold zRow RL
    exact ⟨v, l, rfl, by unfold CR; exact ⟨rfl, h.1⟩, RL_zRow h.2⟩
theorem Rows_zero {sz : Nat} {l : List Value} (hl : l.length = sz) (h : allOne l = true) : ∀ (n : Nat), Rows Y Z w sz (List.replicate n (zRow l)) (List.replicate n l).flatten
  | 0 => by simp; unfold Rows; rfl
  | n + 1 => by
    rw [List.replicate_succ, List.replicate_succ, List.flatten_cons]
    unfold Rows
    exact ⟨l, _, rfl, by rw [zRow_length, hl], RL_zRow h, Rows_zero hl h n⟩
end
section
variable {c : Ctx} {ops : Array Oper} {k : List Item} {kz : Kz} {q st : Option St} {i : Nat} {m : Md} {sch : List (Nat × Md)} {F : Fr} {H : Hp} {S : Sp} {o : Oper} {d : Nat} {r : AV} {E E' : Env} {a : Act} {w w' : World} {P : Program} {w0 : World} {X : Org} {Y Z : Nat → Prop}
/-- make([]T, n). -/
theorem r_make {t e : TypeId} {y ye : Ty} {x z : Operand} {kl kc : IntKind} {n : Int} (hT : TabOk c.P c.T) (hi : ops[i]? = some o) (hop : o.op = .makeSlice t x z) (hd : o.dst = some d) (hn : Nat.blt d c.n = true) (hg : gOk ops F o.guard = some true) (hm : oOk m st = true) (hst : stLe st H.length S.length = true)
    (hx : ev F x = some (.r (.v (.int kl n)))) (hz : ev F z = some (.r (.v (.int kc n)))) (hy : c.T.get t = some y) (hel : y.elem = some e) (hye : c.T.get e = some ye) (hone : allOne ye.zero = true) (hzl : Nat.beq ye.zero.length ye.size = true) (hpos : Nat.blt 0 ye.size = true)
    (h0 : 0 ≤ n) (hlen : n.toNat ≤ maxLen ∧ ye.bytes * n.toNat ≤ 281474976710656)
    (h : GR c ops kz q st sch ((d, .sl S.length) :: F) H (S ++ [some ⟨e, ye.size, List.replicate n.toNat (zRow ye.zero), false⟩])) : GR c ops kz q st ((i, m) :: sch) F H S := by
  refine gr_grow hi hd hn hg hm (fun E a w h3 h4 => ?_) (stLe_ok hst).1 (stLe_ok hst).2 h
  obtain ⟨ti, z0, hti, hts, htb, hz0, hzc⟩ := tyOf_zero (hT e ye hye)
  have e1 := C_v (h3.ev hx)
  have e2 := C_v (h3.ev hz)
  have hzl' := Nat.eq_of_beq_eq_true hzl
  have hzs : z0.cells.size = ye.size := by rw [← Array.length_toList, hzc, hzl']
  have hcells := madeCells_flat z0.cells (by rw [hzs]; exact Nat.le_of_ble_eq_true hpos) n.toNat
  rw [hzc, hzs] at hcells
  have hR : Rows E.Y E.Z w ye.size (List.replicate n.toNat (zRow ye.zero)) (madeCells z0.cells (n.toNat * ye.size)).toList := by
    rw [hcells]; exact Rows_zero hzl' hone n.toNat
  obtain ⟨E', m1, m2, m3, m4⟩ := new_slice (e := e) h3 h4 hR (by rw [List.length_replicate]; exact hlen.1)
  refine ⟨E', _, _, ?_, m1, m2, m3, m4⟩
  have h63' : n ≤ 9223372036854775807 := by
    have h := hlen.1
    simp [maxLen] at h
    omega
  have hb' : (ti.bytes : Int) * n ≤ 281474976710656 := by
    have h : ((ye.bytes * n.toNat : Nat) : Int) ≤ 281474976710656 := by have := hlen.2; omega
    rw [Int.natCast_mul, Int.toNat_of_nonneg h0] at h
    rw [htb]; exact h
  have hr := run_make (P := c.P) w t e ti z0 (tyOf_elem (hT t y hy) hel) hti hz0 kl kc n n h0 (Int.le_refl _) hb' h63'
  unfold execOp
  simp only [hop, e1, e2, Sem.run_bind, hr, Result.andThen_ok, Sem.run_pure, List.length_replicate, hts]
  rfl
end
end Go.Proofs.Ytmocggibcniggaa.Kw
namespace Go.Proofs.Ytmocggibcniggaa.Kw
open Go
section
variable {c : Ctx} {ops : Array Oper} {k : List Item} {kz : Kz} {q st : Option St} {i : Nat} {m : Md} {sch : List (Nat × Md)} {F : Fr} {H : Hp} {S : Sp} {o : Oper} {d : Nat} {r : AV} {E E' : Env} {a : Act} {w w' : World} {P : Program} {w0 : World} {X : Org} {Y Z : Nat → Prop}
/-! ### how much a slice may take -/
/-! ### append(s, make(..)...): a new slice, where the old one takes no more -/
end
end Go.Proofs.Ytmocggibcniggaa.Kw
namespace Go.Proofs.Ytmocggibcniggaa.Kw
open Go
section
variable {c : Ctx} {ops : Array Oper} {k : List Item} {kz : Kz} {q st : Option St} {i : Nat} {m : Md} {sch : List (Nat × Md)} {F : Fr} {H : Hp} {S : Sp} {o : Oper} {d : Nat} {r : AV} {E E' : Env} {a : Act} {w w' : World} {P : Program} {w0 : World} {X : Org} {Y Z : Nat → Prop}
end
end Go.Proofs.Ytmocggibcniggaa.Kw
namespace Go.Proofs.Ytmocggibcniggaa.Kw
open Go
/-! ### boxes and slices are numbered anew -/
def pkA (bs ks : List Nat) (x : AV) : AV := match selA bs ks x with
  | some y => y
  | none => .junk
def pkL (bs ks : List Nat) : List AV → List AV
  | [] => []
  | x :: xs => pkA bs ks x :: pkL bs ks xs
def pkF (bs ks : List Nat) : Fr → Fr
  | [] => []
  | (d, x) :: F => (d, pkA bs ks x) :: pkF bs ks F
def pkH (bs ks : List Nat) (H : Hp) : List Nat → Option Hp
  | [] => some []
  | i :: is => match H[i]? with
    | some (some (t, cs)) => match pkH bs ks H is with
      | some r => some (some (t, pkL bs ks cs) :: r)
      | none => none
    | _ => none
theorem pkH_get {bs ks : List Nat} {H : Hp} : ∀ {is : List Nat} {H0 : Hp}, pkH bs ks H is = some H0 → H0.length = is.length ∧ (∀ (j : Nat) (i : Nat), is[j]? = some i → ∃ t cs, H[i]? = some (some (t, cs))) ∧ ∀ (j : Nat) (t : TypeId) (ds : List AV), H0[j]? = some (some (t, ds)) → ∃ i cs, is[j]? = some i ∧ H[i]? = some (some (t, cs)) ∧ pkL bs ks cs = ds
  | [], H0, h => by simp only [pkH] at h; cases h; exact ⟨rfl, fun j i hi => by simp at hi, fun j t ds hj => by simp at hj⟩
  | x :: is, H0, h => by
    simp only [pkH] at h
    split at h
    · rename_i t cs hx
      split at h
      · rename_i r hr
        cases h
        obtain ⟨h1, h2, h3⟩ := pkH_get hr
        refine ⟨by simp [h1], fun j i hi => ?_, fun j t' ds' hj => ?_⟩
        · cases j with
          | zero => simp at hi; subst hi; exact ⟨t, cs, hx⟩
          | succ j => simp at hi; exact h2 j i hi
        · cases j with
          | zero => simp at hj; obtain ⟨rfl, rfl⟩ := hj; exact ⟨x, cs, by simp, hx, rfl⟩
          | succ j => simp at hj; obtain ⟨i, cs', k1, k2, k3⟩ := h3 j t' ds' hj; exact ⟨i, cs', by simpa using k1, k2, k3⟩
      · cases h
    · cases h
section
variable {c : Ctx} {ops : Array Oper} {k : List Item} {kz : Kz} {q st : Option St} {i : Nat} {m : Md} {sch : List (Nat × Md)} {F : Fr} {H H' : Hp} {S S' : Sp} {o : Oper} {d : Nat} {r : AV} {E E' : Env} {a : Act} {w w' : World} {P : Program} {w0 : World} {X : Org} {bs ks : List Nat}
theorem C_pk {x : AV} {u : Value} (h : C E w x u) : C (E.pick bs ks) w (pkA bs ks x) u := by
  unfold pkA
  cases hs : selA bs ks x with
  | none => unfold C; trivial
  | some y => exact C_sel x y u hs h
theorem CL_pk : ∀ {xs : List AV} {us : List Value}, CL E w xs us → CL (E.pick bs ks) w (pkL bs ks xs) us
  | [], us, h => by unfold pkL; unfold CL at h ⊢; exact h
  | x :: xs, us, h => by
    unfold CL at h
    obtain ⟨u, r, h1, h2, h3⟩ := h
    unfold pkL CL
    exact ⟨u, r, h1, C_pk h2, CL_pk h3⟩
theorem pkF_get : ∀ {F : Fr} {d : Nat} {y : AV}, Fr.get (pkF bs ks F) d = some y → ∃ x, Fr.get F d = some x ∧ y = pkA bs ks x
  | [], d, y, h => by simp [pkF, Fr.get] at h
  | (d', x) :: F, d, y, h => by
    simp only [pkF, Fr.get] at h ⊢
    cases hd : Nat.beq d' d with
    | true => rw [hd] at h; simp at h; exact ⟨x, rfl, h.symm⟩
    | false => rw [hd] at h; exact pkF_get h
theorem Sat.pk (h : Sat w0 X E H S w) (hnb : nodupN bs = true) (hnk : nodupN ks = true) (hp : prefN X.nb bs = true) (hH : pkH bs ks H bs = some H') (hS : selS S ks = some S') (hpv : prefN X.nv ks = true) : Sat w0 X (E.pick bs ks) H' S' w := by
  obtain ⟨lH, aH, gH⟩ := pkH_get hH
  obtain ⟨lS, gS⟩ := selS_get hS
  have Bat : ∀ (j b : Nat), (E.pick bs ks).B[j]? = some b → ∃ i, bs[j]? = some i ∧ E.B[i]? = some b := by
    intro j b hj
    obtain ⟨i, h1, h2⟩ := map_get hj
    obtain ⟨t, cs, h3⟩ := aH j i h1
    obtain ⟨b', us, h4, _⟩ := h.box i t cs h3
    rw [h4] at h2
    simp at h2
    subst h2
    exact ⟨i, h1, h4⟩
  have Pat : ∀ (j : Nat) (e : SE) (fp : List Nat), S'[j]? = some (some e) → (E.pick bs ks).P[j]? = some fp → ∃ k, ks[j]? = some k ∧ S[k]? = some (some e) ∧ E.P[k]? = some fp := by
    intro j e fp hj hp
    obtain ⟨k, h1, h2⟩ := gS j e hj
    obtain ⟨k', h3, h4⟩ := map_get hp
    rw [h1] at h3
    cases h3
    obtain ⟨v, fp', _, h5, _⟩ := h.sl k e h2
    rw [h5] at h4
    simp at h4
    subst h4
    exact ⟨k, h1, h2, h5⟩
  refine { h with lB := by simp [lH], lV := by simp [lS], lP := by simp [lS], box := ?_, sl := ?_, oB := ?_, oP := ?_, PN := ?_, own := ?_, bup := ?_, vup := ?_ }
  · intro j t ds hj
    obtain ⟨i, cs, h1, h2, h3⟩ := gH j t ds hj
    obtain ⟨b, us, k1, k2, k3, k4⟩ := h.box i t cs h2
    refine ⟨b, us, ?_, k2, h3 ▸ CL_pk k3, k4⟩
    show (bs.map fun i => (E.B[i]?).getD 0)[j]? = some b
    rw [List.getElem?_map, h1]
    simp [k1]
  · intro j e hj
    obtain ⟨k, h1, h2⟩ := gS j e hj
    obtain ⟨v, fp, k1, k2, k3⟩ := h.sl k e h2
    refine ⟨v, fp, ?_, ?_, k3⟩
    · show (ks.map fun k => (E.V[k]?).getD undef)[j]? = some v
      rw [List.getElem?_map, h1]; simp [k1]
    · show (ks.map fun k => (E.P[k]?).getD [])[j]? = some fp
      rw [List.getElem?_map, h1]; simp [k2]
  · intro j b hj
    obtain ⟨i, h1, h2⟩ := Bat j b hj
    show ownG E bs ks b = _
    unfold ownG
    rw [h.oB i b h2]
    simp only [idxN_of hnb h1]
  · intro j e fp b hj hp hb'
    obtain ⟨k, h1, h2, h3⟩ := Pat j e fp hj hp
    show ownG E bs ks b = _
    unfold ownG
    rw [h.oP k e fp b h2 h3 hb']
    simp only [idxN_of hnk h1]
  · intro j e fp hj hp
    obtain ⟨k, h1, h2, h3⟩ := Pat j e fp hj hp
    exact h.PN k e fp h2 h3
  · intro b x hx
    have hx' : ownG E bs ks b = some x := hx
    obtain ⟨y, hy⟩ := Option.ne_none_iff_exists'.1 (ownG_some (E := E) (hb := bs) (ks := ks) (b := b) (by rw [hx']; simp))
    exact h.own b y hy
  · intro i b hi hb
    have h1 := h.bup i b hi hb
    have h2 := prefN_get hp i hi
    show (bs.map fun i => (E.B[i]?).getD 0)[i]? = some b
    rw [List.getElem?_map, h2]
    simp [h1]
  · intro i v hi hv
    have h1 := h.vup i v hi hv
    have h2 := prefN_get hpv i hi
    show (ks.map fun i => (E.V[i]?).getD undef)[i]? = some v
    rw [List.getElem?_map, h2]
    simp [h1]
/-- OF THE BOXES AND SLICES THESE ARE KEPT, numbered by their places. -/
theorem gi_pick (bs ks : List Nat) (hnb : nodupN bs = true) (hnk : nodupN ks = true) (hp : prefN c.X.nb bs = true) (hH : pkH bs ks H bs = some H') (hS : selS S ks = some S') (h : GI c k (pkF bs ks F) H' S') (hpv : prefN c.X.nv ks = true := by rfl) : GI c k F H S := by
  intro E a w h1 h2 h3 h4
  refine h (E.pick bs ks) a w h1 h2 ⟨fun d y hy => ?_⟩ (h4.pk hnb hnk hp hH hS hpv)
  obtain ⟨x, k1, rfl⟩ := pkF_get hy
  obtain ⟨u, k2, k3⟩ := h3.get d x k1
  exact ⟨u, k2, C_pk k3⟩
end
end Go.Proofs.Ytmocggibcniggaa.Kw
namespace Go.Proofs.Ytmocggibcniggaa.Kw
open Go
/-! ### structs of numbers and Bools, put beside one another -/
def flatKs (P : Program) : Nat → List Field → Option (List (Option IntKind))
  | _, [] => some []
  | i, f :: fs => match Nat.beq f.offset i && f.name != "_", P.underlying f.type with
    | true, some (.int k) => (flatKs P (i + 1) fs).map (some k :: ·)
    | true, some .bool => (flatKs P (i + 1) fs).map (none :: ·)
    | _, _ => none
def flatK (P : Program) (t : TypeId) : Option (List (Option IntKind)) := match P.underlying t with
  | some (.struct fs) => match P.stoodInHeld t || P.eqGuardType P.depth t with
    | false => flatKs P 0 fs.toList
    | true => none
  | _ => none
def kEq : List (Option IntKind) → List AV → List AV → Option Bool
  | [], [], [] => some true
  | some k :: ks, .r (.v (.int k1 a)) :: xs, .r (.v (.int k2 b)) :: ys => match decide (k1 = k2), kEq ks xs ys with
    | true, some r => some (eqB a b && r)
    | _, _ => none
  | none :: ks, .r (.v (.bool a)) :: xs, .r (.v (.bool b)) :: ys => (kEq ks xs ys).map (beqB a b && ·)
  | _, _, _ => none
section
variable {P : Program} {E : Env} {w : World}
theorem part_at {d : TypeDesc} {t : TypeId} (h : P.underlying t = some d) (ha : isAggD d = false) {cs : Array Value} {i : Nat} {v : Value} (hv : cs[i]? = some v) (w' : World) : (part t cs i).run P w' = .ok v w' := by
  unfold part
  simp only [Sem.run_bind, run_isAgg_ h, Result.andThen_ok, ha, Bool.false_eq_true, if_false, hv, Sem.run_pure]
theorem kEq_nil {xs ys : List AV} {b : Bool} (h : kEq [] xs ys = some b) : b = true := by
  unfold kEq at h
  split at h
  · cases h; rfl
  · rename_i heq; cases heq
  · rename_i heq; cases heq
  · cases h
theorem kEq_int {k : IntKind} {ks : List (Option IntKind)} {xs ys : List AV} {b : Bool} (h : kEq (some k :: ks) xs ys = some b) : ∃ k1 a a' xs' ys' r, xs = .r (.v (.int k1 a)) :: xs' ∧ ys = .r (.v (.int k1 a')) :: ys' ∧ kEq ks xs' ys' = some r ∧ b = (eqB a a' && r) := by
  unfold kEq at h
  split at h
  · rename_i heq; cases heq
  · rename_i heq
    cases heq
    split at h
    · rename_i hk hr
      have hk := of_decide_eq_true hk
      subst hk
      cases h
      exact ⟨_, _, _, _, _, _, rfl, rfl, hr, rfl⟩
    · cases h
  · rename_i heq; cases heq
  · cases h
theorem kEq_bool {ks : List (Option IntKind)} {xs ys : List AV} {b : Bool} (h : kEq (none :: ks) xs ys = some b) : ∃ a a' xs' ys' r, xs = .r (.v (.bool a)) :: xs' ∧ ys = .r (.v (.bool a')) :: ys' ∧ kEq ks xs' ys' = some r ∧ b = (beqB a a' && r) := by
  unfold kEq at h
  split at h
  · rename_i heq; cases heq
  · rename_i heq; cases heq
  · rename_i heq
    cases heq
    obtain ⟨r, hr, rfl⟩ := Option.map_eq_some_iff.1 h
    exact ⟨_, _, _, _, _, rfl, rfl, hr, rfl⟩
  · cases h
theorem eqFields_step {n i : Nat} {f : Field} {fs : List Field} {A B : Array Value} {d : TypeDesc} {u v : Value} {b r : Bool} (hn : f.name ≠ "_") (ho : f.offset = i) (hu : P.underlying f.type = some d) (ha : isAggD d = false) (hA : A[i]? = some u) (hB : B[i]? = some v)
    (he : ∀ w', (Op.equalIn (n + 1) f.type u v).run P w' = .ok b w') (hr : ∀ w', (Op.eqFields (n + 1) A B fs).run P w' = .ok r w') (w' : World) : (Op.eqFields (n + 1) A B (f :: fs)).run P w' = .ok (b && r) w' := by
  subst ho
  unfold Op.eqFields
  rw [if_pos hn]
  simp only [Sem.run_bind, part_at hu ha hA, part_at hu ha hB, he, Result.andThen_ok]
  cases b with
  | true => simp [hr]
  | false => simp
theorem eqFields_ok (n : Nat) : ∀ {fs : List Field} {i : Nat} {ks : List (Option IntKind)} {xs ys : List AV} {b : Bool} {us vs : List Value} {A B : Array Value}, flatKs P i fs = some ks → kEq ks xs ys = some b → CL E w xs us → CL E w ys vs → (∀ (j : Nat) v, us[j]? = some v → A[i + j]? = some v) → (∀ (j : Nat) v, vs[j]? = some v → B[i + j]? = some v) → ∀ w', (Op.eqFields (n + 1) A B fs).run P w' = .ok b w'
  | [], i, ks, xs, ys, b, us, vs, A, B, h1, h2, h3, h4, h5, h6, w' => by
    unfold flatKs at h1
    cases h1
    rw [kEq_nil h2]
    simp [Op.eqFields]
  | f :: fs, i, ks, xs, ys, b, us, vs, A, B, h1, h2, h3, h4, h5, h6, w' => by
    unfold flatKs at h1
    split at h1
    · rename_i k hc hu
      rw [Bool.and_eq_true] at hc
      obtain ⟨ks', hk, rfl⟩ := Option.map_eq_some_iff.1 h1
      have ho : f.offset = i := Nat.eq_of_beq_eq_true hc.1
      have hn : f.name ≠ "_" := by simpa using hc.2
      obtain ⟨k1, a, a', xs', ys', r, rfl, rfl, hr, rfl⟩ := kEq_int h2
      unfold CL at h3 h4
      obtain ⟨u, us', rfl, hcu, h3⟩ := h3
      obtain ⟨v, vs', rfl, hcv, h4⟩ := h4
      have e1 := C_v hcu
      have e2 := C_v hcv
      subst e1; subst e2
      refine eqFields_step hn ho hu rfl (h5 0 _ rfl) (h6 0 _ rfl) (fun w' => ?_) (fun w' => ?_) w'
      · rw [run_equalIn_int w' n f.type k1 k a a' hu, eqB_eq]
      · exact eqFields_ok n hk hr h3 h4 (fun j v hj => by rw [show i + 1 + j = i + (j + 1) by omega]; exact h5 (j + 1) v (by simpa using hj)) (fun j v hj => by rw [show i + 1 + j = i + (j + 1) by omega]; exact h6 (j + 1) v (by simpa using hj)) w'
    · rename_i hc hu
      rw [Bool.and_eq_true] at hc
      obtain ⟨ks', hk, rfl⟩ := Option.map_eq_some_iff.1 h1
      have ho : f.offset = i := Nat.eq_of_beq_eq_true hc.1
      have hn : f.name ≠ "_" := by simpa using hc.2
      obtain ⟨a, a', xs', ys', r, rfl, rfl, hr, rfl⟩ := kEq_bool h2
      unfold CL at h3 h4
      obtain ⟨u, us', rfl, hcu, h3⟩ := h3
      obtain ⟨v, vs', rfl, hcv, h4⟩ := h4
      have e1 := C_v hcu
      have e2 := C_v hcv
      subst e1; subst e2
      refine eqFields_step hn ho hu rfl (h5 0 _ rfl) (h6 0 _ rfl) (fun w' => ?_) (fun w' => ?_) w'
      · rw [run_equalIn_bool' w' n f.type a a' hu, beqB_eq]
      · exact eqFields_ok n hk hr h3 h4 (fun j v hj => by rw [show i + 1 + j = i + (j + 1) by omega]; exact h5 (j + 1) v (by simpa using hj)) (fun j v hj => by rw [show i + 1 + j = i + (j + 1) by omega]; exact h6 (j + 1) v (by simpa using hj)) w'
    · cases h1
end
section
variable {c : Ctx} {ops : Array Oper} {k : List Item} {kz : Kz} {q st : Option St} {i : Nat} {m : Md} {sch : List (Nat × Md)} {F : Fr} {H : Hp} {S : Sp} {o : Oper} {d : Nat}
theorem eqT_run {P : Program} {E : Env} {w : World} {t : TypeId} {ks : List (Option IntKind)} {xs ys : List AV} {b : Bool} {u v : Value} (hk : flatK P t = some ks) (hb : kEq ks xs ys = some b) (h3 : C E w (.agg xs) u) (h4 : C E w (.agg ys) v) (x z : Operand) (op : BinOp) (w' : World) :
    (eqGuard op t x z u v).run P w' = .ok () w' ∧ (Op.equalIn 10000 t u v).run P w' = .ok b w' := by
  unfold flatK at hk
  split at hk
  · rename_i fs hu
    split at hk
    · rename_i hs
      rw [Bool.or_eq_false_iff] at hs
      unfold C at h3 h4
      obtain ⟨us, rfl, h3, _⟩ := h3
      obtain ⟨vs, rfl, h4, _⟩ := h4
      have hf : P.fieldsOf t = fs := by unfold Program.fieldsOf; rw [hu]
      refine ⟨run_eqGuard_agg w' op t x z _ _ hs.2, ?_⟩
      rw [run_equalIn_agg w' 9999 t _ _ (by rw [hf]; exact hu) hs.1, hf]
      exact eqFields_ok 9998 hk hb h3 h4 (fun j v hj => by simpa using hj) (fun j v hj => by simpa using hj) w'
    · cases hk
  · cases hk
theorem r_eqT {t t' : TypeId} {x z : Operand} {xs ys : List AV} {b : Bool} (ks : List (Option IntKind)) (hi' : ops[i]? = some o) (hop : o.op = .binOp .eql t x z t') (hd : o.dst = some d) (hn : Nat.blt d c.n = true) (hg : gOk ops F o.guard = some true) (hm : mOk m st = true)
    (hx : ev F x = some (.agg xs)) (hz : ev F z = some (.agg ys)) (hb : kEq ks xs ys = some b) (hk : flatK c.P t = some ks) (h : GR c ops kz q st sch ((d, .r (.v (.bool b))) :: F) H S) : GR c ops kz q st ((i, m) :: sch) F H S := by
  refine r_ans hi' hd hn hg hm (fun E a w h3 h4 => ?_) h
  refine ⟨_, C_v_mk rfl, ans_v (s := do eqGuard .eql t x z (a.eval x) (a.eval z); binOp .eql t (a.eval x) (a.eval z)) (by unfold execOp; simp only [hop]) (fun w' => ?_)⟩
  obtain ⟨e1, e2⟩ := eqT_run hk hb (h3.ev hx) (h3.ev hz) x z .eql w'
  have hcx := h3.ev hx
  have hcz := h3.ev hz
  unfold C at hcx hcz
  obtain ⟨us, hu, _, _⟩ := hcx
  obtain ⟨vs, hv, _, _⟩ := hcz
  rw [Sem.run_bind, e1, Result.andThen_ok]
  rw [hu, hv] at e2 ⊢
  rw [run_eql_struct, e2, Result.andThen_ok]
theorem r_neT {t t' : TypeId} {x z : Operand} {xs ys : List AV} {b : Bool} (ks : List (Option IntKind)) (hi' : ops[i]? = some o) (hop : o.op = .binOp .neq t x z t') (hd : o.dst = some d) (hn : Nat.blt d c.n = true) (hg : gOk ops F o.guard = some true) (hm : mOk m st = true)
    (hx : ev F x = some (.agg xs)) (hz : ev F z = some (.agg ys)) (hb : kEq ks xs ys = some b) (hk : flatK c.P t = some ks) (h : GR c ops kz q st sch ((d, .r (.v (.bool (notB b)))) :: F) H S) : GR c ops kz q st ((i, m) :: sch) F H S := by
  refine r_ans hi' hd hn hg hm (fun E a w h3 h4 => ?_) h
  refine ⟨_, C_v_mk rfl, ans_v (s := do eqGuard .neq t x z (a.eval x) (a.eval z); binOp .neq t (a.eval x) (a.eval z)) (by unfold execOp; simp only [hop]) (fun w' => ?_)⟩
  obtain ⟨e1, e2⟩ := eqT_run hk hb (h3.ev hx) (h3.ev hz) x z .neq w'
  have hcx := h3.ev hx
  have hcz := h3.ev hz
  unfold C at hcx hcz
  obtain ⟨us, hu, _, _⟩ := hcx
  obtain ⟨vs, hv, _, _⟩ := hcz
  rw [Sem.run_bind, e1, Result.andThen_ok]
  rw [hu, hv] at e2 ⊢
  rw [run_neq_struct, e2, Result.andThen_ok, notB_eq]
end
end Go.Proofs.Ytmocggibcniggaa.Kw
namespace Go.Proofs.Ytmocggibcniggaa.Kw
open Go
open Go.Proofs.YtmocggibcniggaaW.PrintLast
/-! ### the order of a region, checked by numbers whose bits are the operations -/
def opA (o : Oper) : Nat := o.after.toList.foldl (fun m e => if Region.binds .any e then m ||| (1 <<< e.on) else m) 0
theorem opA_fold (b : Nat) : ∀ (l : List Edge) (m : Nat), (l.foldl (fun m e => if Region.binds .any e then m ||| (1 <<< e.on) else m) m).testBit b = true ↔ (m.testBit b = true ∨ ∃ e ∈ l, Region.binds .any e = true ∧ e.on = b)
  | [], m => by simp
  | e :: l, m => by
    rw [List.foldl_cons, opA_fold b l]
    by_cases h : Region.binds .any e = true
    · rw [if_pos h, Nat.testBit_or, Nat.shiftLeft_eq, Nat.one_mul, Nat.testBit_two_pow]
      simp only [Bool.or_eq_true, decide_eq_true_eq, List.mem_cons]
      constructor
      · rintro ((h1 | h1) | ⟨e', h1, h2⟩)
        · exact .inl h1
        · exact .inr ⟨e, .inl rfl, h, h1⟩
        · exact .inr ⟨e', .inr h1, h2⟩
      · rintro (h1 | ⟨e', rfl | h1, h2, h3⟩)
        · exact .inl (.inl h1)
        · exact .inl (.inr h3)
        · exact .inr ⟨e', h1, h2, h3⟩
    · rw [if_neg h]
      simp only [List.mem_cons]
      constructor
      · rintro (h1 | ⟨e', h1, h2⟩)
        · exact .inl h1
        · exact .inr ⟨e', .inr h1, h2⟩
      · rintro (h1 | ⟨e', rfl | h1, h2⟩)
        · exact .inl h1
        · exact absurd h2.1 h
        · exact .inr ⟨e', h1, h2⟩
theorem opA_bit (o : Oper) (b : Nat) : (opA o).testBit b = true ↔ ∃ e ∈ o.after, Region.binds .any e = true ∧ e.on = b := by
  unfold opA
  rw [opA_fold]
  simp
/-- operation i (its bits F: what may not be asked) against all others -/
def chkRow (ops : Array Oper) (i F : Nat) (oi : Oper) : Nat → List Oper → List Nat → Bool
  | j, oj :: os, a :: As => (Nat.beq j i || F.testBit j || a.testBit i || oi.apart ops oj) && chkRow ops i F oi (j + 1) os As
  | _, [], [] => true
  | _, _, _ => false
def chkAll (ops : Array Oper) (all : List Oper) (As : List Nat) : Nat → List Oper → List Nat → Bool
  | i, oi :: os, F :: Fs => chkRow ops i F oi 0 all As && chkAll ops all As (i + 1) os Fs
  | _, [], [] => true
  | _, _, _ => false
def rdy (m i a : Nat) : Bool := !m.testBit i && Nat.beq (a &&& m) a
def noneRdy (m i : Nat) : Nat → List Nat → Bool
  | _, [] => true
  | j, a :: As => (Nat.beq j i || !rdy m j a) && noneRdy m i (j + 1) As
def okM (ops : Array Oper) (ds As Fs : List Nat) : List (Nat × Md) → Nat → Bool
  | [], m => Nat.beq m (2 ^ As.length - 1)
  | (i, .p) :: r, m => (match As[i]?, Fs[i]? with
      | some a, some f => rdy m i a && Nat.beq (f &&& m) f
      | _, _ => false) && okM ops ds As Fs r (m ||| (1 <<< i))
  | (i, .t) :: r, m => (match As[i]?, Fs[i]? with
      | some a, some f => rdy m i a && Nat.beq (f &&& m) f
      | _, _ => false) && (ds.all fun d => m.testBit d || Region.reachB .any ops i ops.size d) && okM ops ds As Fs r (m ||| (1 <<< i))
  | (i, .o) :: r, m => (match As[i]? with
      | some a => rdy m i a && noneRdy m i 0 As
      | _ => false) && !ds.contains i && okM ops ds As Fs r (m ||| (1 <<< i))
  | (i, .l) :: r, m => (match As[i]? with
      | some a => rdy m i a && noneRdy m i 0 As
      | _ => false) && ds.contains i && okM ops ds As Fs r (m ||| (1 <<< i))
theorem sub_bits {f m : Nat} (h : Nat.beq (f &&& m) f = true) {b : Nat} (hb : f.testBit b = true) : m.testBit b = true := by
  have e := Nat.eq_of_beq_eq_true h
  rw [← e, Nat.testBit_and, Bool.and_eq_true] at hb
  exact hb.2
theorem bits_sub {f m : Nat} (h : ∀ b, f.testBit b = true → m.testBit b = true) : Nat.beq (f &&& m) f = true := by
  have : f &&& m = f := by
    apply Nat.eq_of_testBit_eq
    intro b
    rw [Nat.testBit_and]
    cases hb : f.testBit b with
    | true => rw [h b hb]; rfl
    | false => rfl
  rw [this]
  exact Nat.beq_refl _
theorem chkRow_spec {ops : Array Oper} {i F : Nat} {oi : Oper} : ∀ {os : List Oper} {As : List Nat} {j : Nat}, chkRow ops i F oi j os As = true → ∀ (k : Nat) (o : Oper), os[k]? = some o → ∃ a, As[k]? = some a ∧ (j + k = i ∨ F.testBit (j + k) = true ∨ a.testBit i = true ∨ oi.apart ops o = true)
  | [], As, j, h, k, o, ho => by simp at ho
  | o0 :: os, [], j, h, k, o, ho => by simp [chkRow] at h
  | o0 :: os, a :: As, j, h, k, o, ho => by
    unfold chkRow at h
    rw [Bool.and_eq_true] at h
    cases k with
    | zero =>
      simp at ho
      subst ho
      refine ⟨a, rfl, ?_⟩
      have h1 := h.1
      simp only [Bool.or_eq_true] at h1
      rcases h1 with ((h1 | h1) | h1) | h1
      · exact .inl (Nat.eq_of_beq_eq_true h1)
      · exact .inr (.inl h1)
      · exact .inr (.inr (.inl h1))
      · exact .inr (.inr (.inr h1))
    | succ k =>
      obtain ⟨a', h1, h2⟩ := chkRow_spec h.2 k o (by simpa using ho)
      refine ⟨a', by simpa using h1, ?_⟩
      rwa [show j + (k + 1) = j + 1 + k by omega]
theorem chkAll_spec {ops : Array Oper} {all : List Oper} {As : List Nat} : ∀ {os : List Oper} {Fs : List Nat} {i : Nat}, chkAll ops all As i os Fs = true → ∀ (k : Nat) (o : Oper) (f : Nat), os[k]? = some o → Fs[k]? = some f → chkRow ops (i + k) f o 0 all As = true
  | [], Fs, i, h, k, o, f, ho, hf => by simp at ho
  | o0 :: os, [], i, h, k, o, f, ho, hf => by simp at hf
  | o0 :: os, f0 :: Fs, i, h, k, o, f, ho, hf => by
    unfold chkAll at h
    rw [Bool.and_eq_true] at h
    cases k with
    | zero => simp at ho hf; subst ho; subst hf; exact h.1
    | succ k =>
      have := chkAll_spec h.2 k o f (by simpa using ho) (by simpa using hf)
      rwa [show i + (k + 1) = i + 1 + k by omega]
theorem noneRdy_spec {m i : Nat} : ∀ {As : List Nat} {j : Nat}, noneRdy m i j As = true → ∀ (k a : Nat), As[k]? = some a → j + k ≠ i → rdy m (j + k) a = false
  | [], j, h, k, a, ha, hn => by simp at ha
  | a0 :: As, j, h, k, a, ha, hn => by
    unfold noneRdy at h
    rw [Bool.and_eq_true, Bool.or_eq_true] at h
    cases k with
    | zero =>
      simp at ha
      subst ha
      rcases h.1 with h1 | h1
      · exact absurd (Nat.eq_of_beq_eq_true h1) hn
      · simpa using h1
    | succ k =>
      have := noneRdy_spec h.2 k a (by simpa using ha) (by omega)
      rwa [show j + (k + 1) = j + 1 + k by omega]
def Rel (n : Nat) (l : Array Bool) (m : Nat) : Prop := l.size = n ∧ ∀ j, l.getD j false = m.testBit j
theorem Rel.init (n : Nat) : Rel n (Array.replicate n false) 0 := by
  refine ⟨by simp, fun j => ?_⟩
  rw [Nat.zero_testBit]
  by_cases h : j < n
  · simp [h]
  · simp [h]
theorem Rel.set {n m i : Nat} {l : Array Bool} (h : Rel n l m) (hi : i < n) : Rel n (l.setIfInBounds i true) (m ||| (1 <<< i)) := by
  refine ⟨by simpa using h.1, fun j => ?_⟩
  rw [Nat.testBit_or, Nat.shiftLeft_eq, Nat.one_mul, Nat.testBit_two_pow, ← h.2 j]
  by_cases hj : i = j
  · subst hj
    have hs : i < l.size := by rw [h.1]; exact hi
    simp [hs]
  · simp [hj, Array.getElem?_setIfInBounds]
theorem Rel.un {n m i : Nat} {l : Array Bool} (h : Rel n l m) (hi : i < n) : l.getD i true = m.testBit i := by
  rw [← h.2 i]
  have hs : i < l.size := by rw [h.1]; exact hi
  simp [hs]
section
variable {P : Program} {ops : Array Oper} {Q : Exit → Act → World → Prop} {Sx : World → Prop} {n m i a : Nat} {l : Array Bool} {oi : Oper}
theorem rdy_ready (h : Rel n l m) (hn : ops.size = n) (hi : ops[i]? = some oi) (ha : opA oi = a) (hr : rdy m i a = true) : i ∈ Region.ready .any ops l := by
  subst ha
  unfold rdy at hr
  rw [Bool.and_eq_true] at hr
  have hlt : i < n := by rw [← hn]; exact (Array.getElem?_eq_some_iff.1 hi).1
  refine mem_ready.2 ⟨by rw [h.un hlt]; simpa using hr.1, oi, hi, fun e he hb => ?_⟩
  rw [h.2]
  exact sub_bits hr.2 ((opA_bit oi e.on).2 ⟨e, he, hb, rfl⟩)
theorem ready_rdy (h : Rel n l m) (hn : ops.size = n) (hi : ops[i]? = some oi) (ha : opA oi = a) (hr : i ∈ Region.ready .any ops l) : rdy m i a = true := by
  subst ha
  obtain ⟨h1, o, h2, h3⟩ := mem_ready.1 hr
  rw [hi] at h2
  cases h2
  have hlt : i < n := by rw [← hn]; exact (Array.getElem?_eq_some_iff.1 hi).1
  unfold rdy
  rw [Bool.and_eq_true]
  refine ⟨by rw [h.un hlt] at h1; simp [h1], bits_sub (fun b hb => ?_)⟩
  obtain ⟨e, he, hb1, rfl⟩ := (opA_bit oi b).1 hb
  rw [← h.2]
  exact h3 e he hb1
theorem free_of {As Fs : List Nat} {f : Nat} (h : Rel n l m) (hn : ops.size = n) (hA : ops.toList.map opA = As) (hF : chkAll ops ops.toList As 0 ops.toList Fs = true) (hi : ops[i]? = some oi) (hf : Fs[i]? = some f) (hb : Nat.beq (f &&& m) f = true) :
    ∀ j oj, ops[j]? = some oj → j ≠ i → l.getD j true = false → (∀ e ∈ oj.after, Region.binds .any e = true → e.on ≠ i) → oi.apart ops oj = true := by
  intro j oj hj hne hun hno
  have hlt : j < n := by rw [← hn]; exact (Array.getElem?_eq_some_iff.1 hj).1
  rw [h.un hlt] at hun
  have hc := chkAll_spec hF i oi f (by simpa using hi) hf
  obtain ⟨a', h1, h2⟩ := chkRow_spec hc j oj (by simpa using hj)
  rw [Nat.zero_add, Nat.zero_add] at h2
  rcases h2 with h2 | h2 | h2 | h2
  · exact absurd h2 hne
  · have := sub_bits hb h2
    rw [hun] at this
    cases this
  · rw [← hA, List.getElem?_map] at h1
    have hj' : ops.toList[j]? = some oj := by simpa using hj
    rw [hj'] at h1
    simp at h1
    subst h1
    obtain ⟨e, he, hb1, hb2⟩ := (opA_bit oj i).1 h2
    exact absurd hb2 (hno e he hb1)
  · exact h2
theorem seq_fast (hQ : ∀ c a w, ¬ Q (.panic c) a w) {ds As Fs : List Nat} (hs0 : Region.noSelect ops = true) (hn : ops.size = n) (hA : ops.toList.map opA = As) (hF : chkAll ops ops.toList As 0 ops.toList Fs = true) :
    ∀ (sch : List (Nat × Md)) (l : Array Bool) (m : Nat) (a : Act) (w : World), Rel n l m → ListedClosed .any ops l → okM ops ds As Fs sch m = true → Seq false P ops Q Sx sch a w → wpAnyLast P .any ops Q Sx ds sch.length l a w := by
  have hAl : As.length = n := by rw [← hA, List.length_map, ← hn]; simp
  have getA : ∀ {i : Nat} {oi : Oper} {a : Nat}, ops[i]? = some oi → As[i]? = some a → opA oi = a := fun {i oi a} h1 h2 => by
    rw [← hA, List.getElem?_map] at h2
    have hj' : ops.toList[i]? = some oi := by simpa using h1
    rw [hj'] at h2
    simpa using h2
  have only : ∀ {l : Array Bool} {m i : Nat} {oi : Oper} {a : Nat}, Rel n l m → ops[i]? = some oi → opA oi = a → noneRdy m i 0 As = true → ∀ j, j ∈ Region.ready .any ops l → j = i := fun {l m i oi a} hr hi ha h j hj => by
    rcases Nat.decEq j i with hne | he
    · obtain ⟨_, oj, hoj, _⟩ := mem_ready.1 hj
      have hlt : j < n := by rw [← hn]; exact (Array.getElem?_eq_some_iff.1 hoj).1
      obtain ⟨b, hb⟩ : ∃ b, As[j]? = some b := ⟨_, List.getElem?_eq_getElem (by omega)⟩
      have h1 := noneRdy_spec h j b hb (by omega)
      rw [Nat.zero_add, ready_rdy hr hn hoj (getA hoj hb) hj] at h1
      cases h1
    · exact he
  intro sch
  induction sch with
  | nil =>
    intro l m a w hr hc h hs
    unfold okM at h
    have hm := Nat.eq_of_beq_eq_true h
    have : Region.ready .any ops l = [] := by
      rw [List.eq_nil_iff_forall_not_mem]
      intro j hj
      obtain ⟨h1, oj, hoj, _⟩ := mem_ready.1 hj
      have hlt : j < n := by rw [← hn]; exact (Array.getElem?_eq_some_iff.1 hoj).1
      rw [hr.un hlt, hm, hAl, Nat.testBit_two_pow_sub_one] at h1
      simp [hlt] at h1
    exact wpAnyLast_done this hs _
  | cons x r ih =>
    obtain ⟨i, md⟩ := x
    intro l m a w hr hc h hs
    cases md with
    | p =>
      unfold okM at h
      rw [Bool.and_eq_true] at h
      obtain ⟨oi, hi, v, hy, hs⟩ := hs
      have hlt : i < n := by rw [← hn]; exact (Array.getElem?_eq_some_iff.1 hi).1
      have h1 := h.1
      split at h1
      · rename_i b f hb hf
        rw [Bool.and_eq_true] at h1
        have hrd := rdy_ready hr hn hi (getA hi hb) h1.1
        exact wpAnyLast_any hi (Region.noSelect_spec hs0) (fun c a w h => absurd h (hQ _ _ _)) _ l a w (free_of hr hn hA hF hi hf h1.2) hrd hy (ih _ _ _ _ (hr.set hlt) (hc.set hrd) h.2 hs)
      · cases h1
    | t =>
      unfold okM at h
      rw [Bool.and_eq_true, Bool.and_eq_true] at h
      obtain ⟨oi, hi, v, hy, hS, hs⟩ := hs
      have hlt : i < n := by rw [← hn]; exact (Array.getElem?_eq_some_iff.1 hi).1
      have h1 := h.1.1
      split at h1
      · rename_i b f hb hf
        rw [Bool.and_eq_true] at h1
        have hrd := rdy_ready hr hn hi (getA hi hb) h1.1
        refine wpAnyLast_first hi (Region.noSelect_spec hs0) (fun c a w h => absurd h (hQ _ _ _)) ops.size _ l a w (free_of hr hn hA hF hi hf h1.2) hc (fun d hd hun => ?_) hrd hy hS (ih _ _ _ _ (hr.set hlt) (hc.set hrd) h.2 hs)
        have h2 := List.all_eq_true.1 h.1.2 d hd
        rw [Bool.or_eq_true] at h2
        rcases h2 with h2 | h2
        · exfalso
          rw [← hr.2] at h2
          rcases Nat.lt_or_ge d l.size with h' | h'
          · simp [h'] at hun h2; rw [hun] at h2; cases h2
          · simp [Array.getElem?_eq_none h'] at h2
        · exact h2
      · cases h1
    | o =>
      unfold okM at h
      rw [Bool.and_eq_true, Bool.and_eq_true] at h
      obtain ⟨oi, hi, hs⟩ := hs
      have hlt : i < n := by rw [← hn]; exact (Array.getElem?_eq_some_iff.1 hi).1
      have h1 := h.1.1
      split at h1
      · rename_i b hb
        rw [Bool.and_eq_true] at h1
        have hrd := rdy_ready hr hn hi (getA hi hb) h1.1
        have hon := only hr hi (getA hi hb) h1.2
        refine ⟨fun h0 => (by rw [h0] at hrd; cases hrd), fun j hj => ?_⟩
        have := hon j hj
        subst this
        exact wpOp_step hi (fun K hK => wpB_if (hs K (fun a' w' q1 q2 => hK a' w' ⟨fun _ _ => q1, ih _ _ _ _ (hr.set hlt) (hc.set hrd) h.2 q2⟩)))
      · cases h1
    | l =>
      unfold okM at h
      rw [Bool.and_eq_true, Bool.and_eq_true] at h
      obtain ⟨oi, hi, hs⟩ := hs
      have hlt : i < n := by rw [← hn]; exact (Array.getElem?_eq_some_iff.1 hi).1
      have h1 := h.1.1
      split at h1
      · rename_i b hb
        rw [Bool.and_eq_true] at h1
        have hrd := rdy_ready hr hn hi (getA hi hb) h1.1
        have hon := only hr hi (getA hi hb) h1.2
        refine ⟨fun h0 => (by rw [h0] at hrd; cases hrd), fun j hj => ?_⟩
        have := hon j hj
        subst this
        exact wpOp_step hi (fun K hK => wpB_if (hs K (fun a' w' q2 => hK a' w' ⟨fun hnd => absurd (by simpa using h.1.2) hnd, ih _ _ _ _ (hr.set hlt) (hc.set hrd) h.2 q2⟩)))
      · cases h1
end
section
variable {c : Ctx} {k : List Item} {F : Fr} {H : Hp} {S : Sp}
/-- The region that draws its order, checked by bits. -/
theorem gi_drawM {id : Nat} {ops : Array Oper} (ds : List Nat) (sch : List (Nat × Md)) (As Fs : List Nat) (hm : c.P.follows .mixedOrders = true) (hn : ops.size = sch.length)
    (hs : (Region.noSelect ops && decide (ops.toList.map opA = As) && chkAll ops ops.toList As 0 ops.toList Fs && okM ops ds As Fs sch 0) = true)
    (h : ∀ (w1 : World) (K : Nat → Prop), GR c ops ⟨k, .it⟩ (some ⟨w1, H.length, S, K, true⟩) (some ⟨w1, H.length, S, K, true⟩) sch F H S) (hyl : c.yl = false := by rfl) (hnd : ndOk c.ro ops.toList = true := by rfl) : GI c (.code (.region id ops true) :: k) F H S := by
  intro E a w h1 h2 h3 h4
  rw [Bool.and_eq_true, Bool.and_eq_true, Bool.and_eq_true] at hs
  obtain ⟨⟨⟨s1, s2⟩, s3⟩, s4⟩ := hs
  have hd := Stays.drew w
  have h4' := h4.stays hd
  have inv := Inv.start h4' H.length S (fun i e he => he)
  refine Reach.of_any (Sp := Sx (some ⟨w.drew, H.length, S, KeepK w.drew E H.length S, true⟩)) (ds := ds) hnd hm hn ?_
  exact seq_fast (fun c a w h => h) s1 hn (of_decide_eq_true s2) s3 sch _ 0 a w.drew (Rel.init _) (fun j oj hj hl => by rw [(Rel.init _).2 j, Nat.zero_testBit] at hl; cases hl) s4 (hyl ▸ h w.drew _ E a w.drew h1 h2 (h3.mono h4.YZ (Env.le_refl E) (fun _ _ => rfl)) h4' (fun s hs => by cases hs; exact ⟨rfl, inv⟩))
end
end Go.Proofs.Ytmocggibcniggaa.Kw
namespace Go.Proofs.Ytmocggibcniggaa.Kw
open Go
theorem CL_setx {E : Env} {w : World} {x y : AV} (hxy : ∀ u, C E w x u → C E w y u) : ∀ {cs : List AV} {us : List Value} {j : Nat}, cs[j]? = some x → CL E w cs us → CL E w (cs.set j y) us
  | [], us, j, hj, h => by simp at hj
  | c :: cs, us, j, hj, h => by
    unfold CL at h
    obtain ⟨u, r, rfl, h1, h2⟩ := h
    cases j with
    | zero =>
      simp at hj
      subst hj
      rw [List.set_cons_zero]
      unfold CL
      exact ⟨u, r, rfl, hxy u h1, h2⟩
    | succ j =>
      rw [List.set_cons_succ]
      unfold CL
      exact ⟨u, r, rfl, h1, CL_setx hxy (by simpa using hj) h2⟩
section
variable {c : Ctx} {k : List Item} {F : Fr} {H : Hp} {S : Sp}
/-- A nil slice in a box becomes an own one. -/
theorem gi_adoptH {e : TypeId} {sz : Nat} {t : TypeId} {cs : List AV} (b j : Nat) (hH : H[b]? = some (some (t, cs))) (hj : cs[j]? = some (.r (.v (.slice none 0 0)))) (h : GI c k F (H.set b (some (t, cs.set j (.sl S.length)))) (S ++ [some ⟨e, sz, [], false⟩])) : GI c k F H S := by
  intro E a w h1 h2 h3 h4
  have hsat := h4.newV (Stays.refl w) (e := ⟨e, sz, [], false⟩) (v := .slice none 0 0) (fp := []) ((OwnE_flat rfl).2 ⟨[], ⟨by simp, .inl ⟨rfl, rfl⟩⟩, by unfold Rows; rfl, rfl⟩) (by simp) (fun b hb => by simp at hb)
  have hcv : ∀ u, C (E.withV (.slice none 0 0) []) w (.r (.v (.slice none 0 0))) u → C (E.withV (.slice none 0 0) []) w (.sl S.length) u := fun u hu => by
    unfold C CR at hu
    unfold C
    refine ⟨?_, by rw [hu.1]; rfl⟩
    rw [hu.1]
    show (E.V ++ [Value.slice none 0 0])[S.length]? = _
    simp [← h4.lV]
  have hlb : b < H.length := (List.getElem?_eq_some_iff.1 hH).1
  refine h _ a w h1 h2 (h3.mono h4.YZ (le_V E _ _) (fun _ _ => rfl)) { hsat with lB := by rw [List.length_set]; exact hsat.lB, box := fun i t' cs' hi => ?_ }
  rw [List.getElem?_set] at hi
  split at hi
  · rename_i hbi
    subst hbi
    simp only [Option.some.injEq, Prod.mk.injEq] at hi
    obtain ⟨rfl, rfl⟩ := hi
    obtain ⟨b', us, q1, q2, q3, q4⟩ := hsat.box b t cs hH
    exact ⟨b', us, q1, q2, CL_setx hcv hj q3, q4⟩
  · exact hsat.box i t' cs' hi
end
end Go.Proofs.Ytmocggibcniggaa.Kw
namespace Go.Proofs.Ytmocggibcniggaa.Kw
open Go
section
variable {c : Ctx} {ops : Array Oper} {k : List Item} {kz : Kz} {q st : Option St} {i : Nat} {m : Md} {sch : List (Nat × Md)} {F : Fr} {H : Hp} {S : Sp} {o : Oper} {d : Nat}
end
end Go.Proofs.Ytmocggibcniggaa.Kw
namespace Go.Proofs.Ytmocggibcniggaa.Kw
open Go
mutual
/-- Values, boxes and slices of the callee's: nothing that is frozen. -/
def plQ : AV → Bool
  | .r (.v _) => true
  | .sl _ => true
  | .box _ _ => true
  | .agg cs => plQL cs
  | .tup cs => plQL cs
  | _ => false
def plQL : List AV → Bool
  | [] => true
  | c :: cs => plQ c && plQL cs
end
section
variable {E E1 E2 : Env} {w : World} {m : Mv}
mutual
theorem C_mvP (hB : ∀ (i b : Nat), E1.B[i]? = some b → E2.B[m.bx i]? = some b) (hV : ∀ (k : Nat) (v : Value), E1.V[k]? = some v → E2.V[m.nS + k]? = some v) : ∀ (x : AV) (u : Value), plQ x = true → C E1 w x u → C E2 w (mvA m x) u
  | .r (.v x), u, _, h => by unfold mvA C CR; unfold C CR at h; exact h
  | .r (.ro _), _, hf, _ => by cases hf
  | .r (.rs _ _), _, hf, _ => by cases hf
  | .r (.fs _ _), _, hf, _ => by cases hf
  | .r (.os _ _ _), _, hf, _ => by cases hf
  | .r .any, _, hf, _ => by cases hf
  | .sl k, u, _, h => by unfold mvA C; unfold C at h; exact ⟨hV k u h.1, h.2⟩
  | .box i o, u, _, h => by unfold mvA C; unfold C at h; obtain ⟨b, h1, h2⟩ := h; exact ⟨b, hB i b h1, h2⟩
  | .agg cs, u, hf, h => by unfold mvA C; unfold C at h; obtain ⟨us, h1, h2, h3⟩ := h; exact ⟨us, h1, CL_mvP hB hV cs us hf h2, h3⟩
  | .tup cs, u, hf, h => by unfold mvA C; unfold C at h; obtain ⟨us, h1, h2⟩ := h; exact ⟨us, h1, CL_mvP hB hV cs us hf h2⟩
  | .fn _ _, _, hf, _ => by cases hf
  | .junk, u, _, h => by unfold mvA C; trivial
  | .el _ _ _ _, _, hf, _ => by cases hf
  | .ss _ _ _ _, _, hf, _ => by cases hf
  | .cap _, _, hf, _ => by cases hf
  | .capLe _ _, _, hf, _ => by cases hf
  | .capGt _ _, _, hf, _ => by cases hf
theorem CL_mvP (hB : ∀ (i b : Nat), E1.B[i]? = some b → E2.B[m.bx i]? = some b) (hV : ∀ (k : Nat) (v : Value), E1.V[k]? = some v → E2.V[m.nS + k]? = some v) : ∀ (xs : List AV) (us : List Value), plQL xs = true → CL E1 w xs us → CL E2 w (mvL m xs) us
  | [], us, _, h => by unfold mvL CL; unfold CL at h; exact h
  | c :: cs, us, hf, h => by
    unfold plQL at hf
    rw [Bool.and_eq_true] at hf
    unfold mvL CL
    unfold CL at h
    obtain ⟨u, r, h1, h2, h3⟩ := h
    exact ⟨u, r, h1, C_mvP hB hV c u hf.1 h2, CL_mvP hB hV cs r hf.2 h3⟩
end
end
/-- What is handed over is not what stays. -/
def handOk (st : Option St) (hb ks : List Nat) : Bool := match st with
  | none => true
  | some s => hb.all (fun i => Nat.ble s.n1 i) && ks.all (fun i => Nat.ble s.S1.length i)
theorem idxN_no {i : Nat} : ∀ {l : List Nat}, (∀ x ∈ l, x ≠ i) → idxN i l = none := by
  intro l h
  cases hx : idxN i l with
  | none => rfl
  | some j => exact absurd rfl (h i (List.mem_of_getElem? (idxN_get hx)))
theorem handOk_l {s : St} {hb ks : List Nat} (h : handOk (some s) hb ks = true) (i : Nat) (hi : i < s.n1) : idxN i hb = none := by
  unfold handOk at h
  rw [Bool.and_eq_true] at h
  exact idxN_no (fun x hx e => by have := Nat.le_of_ble_eq_true (List.all_eq_true.1 h.1 x hx); omega)
theorem handOk_r {s : St} {hb ks : List Nat} (h : handOk (some s) hb ks = true) (i : Nat) (hi : i < s.S1.length) : idxN i ks = none := by
  unfold handOk at h
  rw [Bool.and_eq_true] at h
  exact idxN_no (fun x hx e => by have := Nat.le_of_ble_eq_true (List.all_eq_true.1 h.2 x hx); omega)
def stZ (st : Option St) : Bool := match st with
  | none => true
  | some s => !s.zf
section
variable {c : Ctx} {ops : Array Oper} {k : List Item} {kz : Kz} {q st : Option St} {i : Nat} {m : Md} {sch : List (Nat × Md)} {F : Fr} {H : Hp} {S : Sp} {o : Oper} {d : Nat} {r : AV} {E E' : Env} {a : Act} {w w' : World} {P : Program} {w0 : World} {X : Org}
/-- The same where no view is read out of its turn: the answer may be frozen. A CALL that hands boxes (hb) and slices (ks) over, which come back as the contract says. -/
theorem r_callXz {cl : Call} {g : FuncId} {xs ys : List AV} {H0 : Hp} {S0 : Sp} {fn : Func} {Post : AV → Hp → Sp → Prop} {dd : Option Nat} (hb ks : List Nat) (spec : FnX c.P g ys H0 S0 Post) (hi : ops[i]? = some o) (hop : o.op = .call cl) (hd : o.dst = dd) (hn : dOk dd c.n = true) (hg : gOk ops F o.guard = some true)
    (ht : target F cl = some (g, xs)) (hf : c.P.funcs[g]? = some fn) (hnm : (fn.name == "runtime.NumGoroutine") = false) (hbd : fn.body.isSome = true) (hnb : nodupN hb = true) (hnk : nodupN ks = true) (hv : giveL hb ks S xs = some ys) (hH : giveH hb ks S H hb = some H0) (hS : selS S ks = some S0)
    (hm : st.isSome = true) (hst : stLe st H.length S.length = true) (hh : handOk st hb ks = true) (hzf : stZ st = true) (hp : ∀ r H1 S1, Post r H1 S1 → stA r = true ∧ StH H1 ∧ StS S1)
    (h : ∀ r H1 S1, Post r H1 S1 → GR c ops kz q st sch (putD dd (mvA ⟨hb, H.length, S.length⟩ r) F) (putH hb (mvH ⟨hb, H.length, S.length⟩ (H1.take hb.length)) H ++ mvH ⟨hb, H.length, S.length⟩ (H1.drop hb.length)) (clrS ks S ++ S1)) : GR c ops kz q st ((i, .o) :: sch) F H S := by
  intro E a w h1 h2 h3 h4 h5
  obtain ⟨us, k1, k2⟩ := run_call (P := c.P) hop h3 ht hf hnm hbd
  have hsat0 := h4.give hnb hnk hH hS
  refine seq_call hi (gOk_ok (o := o) h3 hg) k2 ((spec w _ _ us hsat0 (giveL_ok h4 xs ys us hv k1)).mono fun e w' hh => ?_) (.inl rfl)
  obtain ⟨u, r, H1, S1, E1, rfl, hpost, hc, hsat, hnl⟩ := hh
  obtain ⟨hpr, hph, hps⟩ := hp r H1 S1 hpost
  have hvx' : ∀ (k : Nat) (v : Value), E1.V[k]? = some v → (E.back E1 hb ks ⟨hb, H.length, S.length⟩ E1.Y).V[S.length + k]? = some v := fun k v hk => by
    show (E.V ++ E1.V)[S.length + k]? = some v
    rw [← h4.lV, get_app]; exact hk
  have key := h4.join (m := ⟨hb, H.length, S.length⟩) (Yn := E1.Y) hnb hnk hH hS rfl hsat hnl (fun _ h => h)
  -- the boxes' numbers are told by a join without content first
  have hbx0 : ∀ (i b : Nat), E1.B[i]? = some b → (E.back E1 hb ks ⟨hb, H.length, S.length⟩ E1.Y).B[(⟨hb, H.length, S.length⟩ : Mv).bx i]? = some b := by
    intro i b hib
    obtain ⟨lH, aH, gH⟩ := giveH_get hH
    unfold Mv.bx
    rw [getN_eq]
    cases hg : hb[i]? with
    | some k =>
      obtain ⟨t, cs, h3'⟩ := aH i k hg
      obtain ⟨b', us', h4', _⟩ := h4.box k t cs h3'
      have hjl : i < H0.length := by rw [lH]; exact (List.getElem?_eq_some_iff.1 hg).1
      have := hsat.bup i b' hjl (by
        show (hb.map fun i => (E.B[i]?).getD 0)[i]? = some b'
        rw [List.getElem?_map, hg]; simp [h4'])
      rw [hib] at this
      cases this
      exact get_left h4'
    | none =>
      have hge : hb.length ≤ i := by
        rcases Nat.lt_or_ge i hb.length with hlt | hge
        · rw [List.getElem?_eq_getElem hlt] at hg; cases hg
        · exact hge
      show (E.B ++ E1.B.drop hb.length)[H.length + (i - hb.length)]? = some b
      rw [← h4.lB, get_app, List.getElem?_drop, show hb.length + (i - hb.length) = i by omega]
      exact hib
  obtain ⟨hj, hz, hbx, hvx⟩ := key (fun j t cs us hj hcl => CL_mv hbx0 hvx' (fun _ h => .inr h) cs us (hph _ (List.mem_of_getElem? hj) t cs rfl) hcl)
    (fun k e v fp hk ho => OwnE_st (fun _ h => .inr h) (hps _ (List.mem_of_getElem? hk) e rfl) ho)
  have h5' : ∀ s, st = some s → q = some s ∧ Inv s (E.back E1 hb ks ⟨hb, H.length, S.length⟩ E1.Y) w' := fun s hs => by
    obtain ⟨hq, inv⟩ := h5 s hs
    have hno : ∀ b, s.K b → ownG E hb ks b = none := fun b hk => by
      subst hs
      unfold ownG
      cases ho : E.O b with
      | none => rfl
      | some x =>
        rcases inv.dis b x hk ho with ⟨i, rfl, hi⟩ | ⟨i, rfl, hi⟩
        · have := handOk_l hh i hi
          simp only [this]
        · have := handOk_r hh i hi
          simp only [this]
    refine ⟨hq, ⟨Nat.le_trans inv.keeps.1 hsat.size, fun b hk => (hsat.old b (Nat.lt_of_lt_of_le (inv.below b hk) inv.keeps.1) (fun hx => hx (hno b hk))).trans (inv.keeps.2 b hk)⟩, inv.below, fun i b hi hb' => ?_, fun i e fp b hi hv hbf => ?_, fun hz b hzz => (by subst hs; simp only [stZ] at hzf; rw [hz] at hzf; cases hzf), fun b x hk hx => ?_⟩
    · have hl : i < E.B.length := by
        have := (stLe_ok hst).1 s hs
        rw [h4.lB]; omega
      have hb2 : (E.B ++ E1.B.drop hb.length)[i]? = some b := hb'
      rw [List.getElem?_append_left hl] at hb2
      exact inv.B i b hi hb2
    · have hl : i < E.P.length := by
        have := (List.getElem?_eq_some_iff.1 hi).1
        have := (stLe_ok hst).2 s hs
        rw [h4.lP]; omega
      have hv' : (E.P ++ E1.P)[i]? = some fp := hv
      rw [List.getElem?_append_left hl] at hv'
      exact inv.V i e fp b hi hv' hbf
    · have hx' : (match E1.O b with
        | some y => some (mvO ⟨hb, H.length, S.length⟩ y)
        | none => match ownG E hb ks b with
          | some _ => none
          | none => E.O b) = some x := hx
      cases ho : E1.O b with
      | some y =>
        rcases (hsat.own b y ho).2.1 with q1 | q1
        · have := inv.below b hk
          have := inv.keeps.1
          omega
        · exact absurd (hno b hk) q1
      | none =>
        rw [ho, hno b hk] at hx'
        exact inv.dis b x hk hx'
  refine ⟨u, rfl, .inl ⟨rfl, sx_of h5' hm⟩, ?_⟩
  rw [hd]
  refine h r H1 S1 hpost _ _ w' ?_ ?_ ((h3.mono h4.YZ back_le hz).putD ?_ (by rw [h1]; exact hn)) hj h5'
  · rw [(put_size _ _ _).1]; exact h1
  · rw [(put_size _ _ _).2]; exact h2
  · exact C_mv hbx hvx (fun _ h => .inr h) r u hpr hc
end
end Go.Proofs.Ytmocggibcniggaa.Kw
namespace Go.Proofs.Ytmocggibcniggaa.Kw
open Go
section
variable {c : Ctx} {ops : Array Oper} {k : List Item} {kz : Kz} {q st : Option St} {i : Nat} {m : Md} {sch : List (Nat × Md)} {F : Fr} {H : Hp} {S : Sp} {o : Oper} {d : Nat} {r : AV} {E E' : Env} {a : Act} {w w' : World} {P : Program} {w0 : World} {X : Org}
end
end Go.Proofs.Ytmocggibcniggaa.Kw
namespace Go.Proofs.Ytmocggibcniggaa.Kw
open Go
open Go.Proofs.YtmocggibcniggaaW.PrintLast
/-! ### a region in which several operations that make memory may come up at once -/
def hdN (x : List (Nat × Md)) (r : List Nat) : List Nat := match x with
  | (i, _) :: _ => [i]
  | [] => r
def headsC : Ct → List Nat
  | .it => []
  | .alt x kx y ky => hdN x (headsC kx) ++ hdN y (headsC ky)
def okL (ops : Array Oper) (ds : List Nat) (e : Nat → Bool → Array Bool → Bool) : List (Nat × Md) → Nat → Bool → Array Bool → Bool
  | [], n, fl, l => e n fl l
  | _ :: _, 0, _, _ => false
  | (i, .p) :: r, n + 1, fl, l => !fl && anyB .any ops l (l.setIfInBounds i true) i && okL ops ds e r n false (l.setIfInBounds i true)
  | (i, .t) :: r, n + 1, fl, l => !fl && takeB .any ops ds l (l.setIfInBounds i true) i && okL ops ds e r n false (l.setIfInBounds i true)
  | (i, .o) :: r, n + 1, fl, l => (fl || (Region.ready .any ops l == [i])) && !ds.contains i && okL ops ds e r n false (l.setIfInBounds i true)
  | (i, .l) :: r, n + 1, fl, l => (fl || (Region.ready .any ops l == [i])) && ds.contains i && okL ops ds e r n false (l.setIfInBounds i true)
def okC (ops : Array Oper) (ds : List Nat) : Ct → Nat → Bool → Array Bool → Bool
  | .it, _, fl, l => !fl && (Region.ready .any ops l == [])
  | .alt x kx y ky, n, fl, l => (fl || (Region.ready .any ops l == headsC (.alt x kx y ky))) && okL ops ds (okC ops ds kx) x n true l && okL ops ds (okC ops ds ky) y n true l
section
variable {c : Ctx} {k : List Item} {q : Option St} {ops : Array Oper} {ds : List Nat}
theorem RT_no : ∀ {T : Ct} {e : Exit} {a : Act} {w : World}, RT c k ops q T e a w → e = .normal
  | .it, e, a, w, h => by
    cases e <;> first | rfl | exact h.elim
  | .alt x kx y ky, e, a, w, h => by
    cases e <;> first | rfl | exact h.elim
theorem opQ {P : Program} {Q Q' : Exit → Act → World → Prop} {o : Oper} {a : Act} {w : World} {K : Act → World → Prop} (hq : ∀ e a w, Q e a w → e = .normal) (hh : o.wp P a w K Q) : o.wp P a w K Q' := by
  unfold Oper.wp at *
  generalize (execOp a.eval o).run P w = r at *
  cases r with
  | ok n w' =>
    cases n <;> simp only [Oper.upon] at hh ⊢ <;>
      first
        | exact hh
        | exact Calls.mono hh (fun e w'' he => by
            cases e with
            | returned v => exact he
            | panicked ch => cases hq _ _ _ he
            | outgrown => obtain ⟨a', w3, h3⟩ := he; cases hq _ _ _ h3)
  | halt x w' =>
    cases x <;> simp only [Oper.upon] at hh ⊢ <;> first | exact hh | cases hq _ _ _ hh
theorem opQi {P : Program} {Q Q' : Exit → Act → World → Prop} {p : Prop} [Decidable p] {o : Oper} {a : Act} {w : World} {K : Act → World → Prop} {J : Prop} (hq : ∀ e a w, Q e a w → e = .normal) (hh : if p then o.wp P a w K Q else J) : if p then o.wp P a w K Q' else J := by
  split
  · rename_i hp; rw [if_pos hp] at hh; exact opQ hq hh
  · rename_i hp; rw [if_neg hp] at hh; exact hh
def Good (c : Ctx) (k : List Item) (ops : Array Oper) (q : Option St) (ds : List Nat) (n : Nat) (fl : Bool) (l : Array Bool) (hs : List Nat) (a : Act) (w : World) : Prop :=
  (fl = false → wpAnyLast c.P .any ops (RQ c k) (Sx q) ds n l a w) ∧ (fl = true → ∃ m, n = m + 1 ∧ hs ≠ [] ∧ AllReadyL c.P .any ops (RQ c k) (Sx q) ds m l a w hs)
theorem okL_sound {T : Ct} (hT : ∀ n fl l a w, okC ops ds T n fl l = true → RT c k ops q T .normal a w → Good c k ops q ds n fl l (headsC T) a w) :
    ∀ (sch : List (Nat × Md)) (n : Nat) (fl : Bool) (l : Array Bool) (a : Act) (w : World), okL ops ds (okC ops ds T) sch n fl l = true → Seq false c.P ops (RT c k ops q T) (Sx q) sch a w → Good c k ops q ds n fl l (hdN sch (headsC T)) a w
  | [], n, fl, l, a, w, h, hs => by
    simp only [okL] at h
    exact hT n fl l a w h hs
  | _ :: _, 0, fl, l, a, w, h, hs => by simp only [okL] at h; cases h
  | (i, .p) :: r, n + 1, fl, l, a, w, h, hs => by
    simp only [okL, Bool.and_eq_true, Bool.not_eq_true'] at h
    obtain ⟨oi, hi, v, hy, hs⟩ := hs
    refine ⟨fun _ => pure_ _ hi rfl h.1.2 (fun c a w h => h.elim) hy rfl ((okL_sound hT r n false _ _ _ h.2 hs).1 rfl), fun hf => ?_⟩
    rw [h.1.1] at hf; cases hf
  | (i, .t) :: r, n + 1, fl, l, a, w, h, hs => by
    simp only [okL, Bool.and_eq_true, Bool.not_eq_true'] at h
    obtain ⟨oi, hi, v, hy, hS, hs⟩ := hs
    refine ⟨fun _ => take_ _ hi rfl h.1.2 (fun c a w h => h.elim) hy hS rfl ((okL_sound hT r n false _ _ _ h.2 hs).1 rfl), fun hf => ?_⟩
    rw [h.1.1] at hf; cases hf
  | (i, .o) :: r, n + 1, fl, l, a, w, h, hs => by
    simp only [okL, Bool.and_eq_true, Bool.not_eq_true', Bool.or_eq_true, beq_iff_eq] at h
    obtain ⟨oi, hi, hs⟩ := hs
    have hd : i ∉ ds := by simpa using h.1.2
    have all : AllReadyL c.P .any ops (RQ c k) (Sx q) ds n l a w [i] := AllReadyL.cons hi hd (fun K hK => opQi (fun _ _ _ => RT_no) (wpB_if (hs K (fun a' w' h1 h2 => hK.out a' w' h1 (fun _ => (okL_sound hT r n false _ _ _ h.2 h2).1 rfl))))) AllReadyL.nil
    refine ⟨fun hf => ?_, fun _ => ⟨n, rfl, by simp [hdN], all⟩⟩
    rcases h.1.1 with h1 | h1
    · rw [hf] at h1; cases h1
    · exact wpAnyLast_ready h1 (by simp) all
  | (i, .l) :: r, n + 1, fl, l, a, w, h, hs => by
    simp only [okL, Bool.and_eq_true, Bool.or_eq_true, beq_iff_eq] at h
    obtain ⟨oi, hi, hs⟩ := hs
    have hd : i ∈ ds := by simpa using h.1.2
    have all : AllReadyL c.P .any ops (RQ c k) (Sx q) ds n l a w [i] := AllReadyL.cons_last hi hd (fun K hK => opQi (fun _ _ _ => RT_no) (wpB_if (hs K (fun a' w' h2 => hK.out a' w' ((okL_sound hT r n false _ _ _ h.2 h2).1 rfl))))) AllReadyL.nil
    refine ⟨fun hf => ?_, fun _ => ⟨n, rfl, by simp [hdN], all⟩⟩
    rcases h.1.1 with h1 | h1
    · rw [hf] at h1; cases h1
    · exact wpAnyLast_ready h1 (by simp) all
theorem AllReadyL.app {P : Program} {md : Region.Mode} {Q : Exit → Act → World → Prop} {S : World → Prop} {m : Nat} {l : Array Bool} {a : Act} {w : World} {x y : List Nat} (hx : AllReadyL P md ops Q S ds m l a w x) (hy : AllReadyL P md ops Q S ds m l a w y) : AllReadyL P md ops Q S ds m l a w (x ++ y) := fun i hi => by
  rcases List.mem_append.1 hi with h | h
  · exact hx i h
  · exact hy i h
theorem okC_sound (hyl : c.yl = false) : ∀ (T : Ct) (n : Nat) (fl : Bool) (l : Array Bool) (a : Act) (w : World), okC ops ds T n fl l = true → RT c k ops q T .normal a w → Good c k ops q ds n fl l (headsC T) a w
  | .it, n, fl, l, a, w, h, hs => by
    simp only [okC, Bool.and_eq_true, Bool.not_eq_true'] at h
    refine ⟨fun _ => done_ h.2 hs, fun hf => ?_⟩
    rw [h.1] at hf; cases hf
  | .alt x kx y ky, n, fl, l, a, w, h, hs => by
    simp only [okC, Bool.and_eq_true, Bool.or_eq_true, beq_iff_eq] at h
    obtain ⟨m, e1, n1, g1⟩ := (okL_sound (okC_sound hyl kx) x n true l a w h.1.2 (by rw [← hyl]; exact hs.1)).2 rfl
    obtain ⟨m2, e2, n2, g2⟩ := (okL_sound (okC_sound hyl ky) y n true l a w h.2 (by rw [← hyl]; exact hs.2)).2 rfl
    have : m = m2 := by omega
    subst this
    have all := AllReadyL.app g1 g2
    refine ⟨fun hf => ?_, fun _ => ⟨m, e1, by simp [headsC, n1], all⟩⟩
    rcases h.1.1 with h1 | h1
    · rw [hf] at h1; cases h1
    · subst e1
      exact wpAnyLast_ready h1 (by simp [headsC, n1]) all
end
section
variable {c : Ctx} {k : List Item} {F : Fr} {H : Hp} {S : Sp}
/-- The region that draws its order, by a tree of orders; the boxes ahead of n stay. -/
theorem gi_drawT (nb : Nat) (zf : Bool) {id : Nat} {ops : Array Oper} (n : Nat) (ds : List Nat) (sch : List (Nat × Md)) (T : Ct) (hm : c.P.follows .mixedOrders = true) (hn : ops.size = n)
    (hs : okL ops ds (okC ops ds T) sch n false (Array.replicate n false) = true)
    (h : ∀ (w1 : World) (K : Nat → Prop), GR c ops ⟨k, T⟩ (some ⟨w1, nb, [], K, zf⟩) (some ⟨w1, nb, [], K, zf⟩) sch F H S) (hyl : c.yl = false := by rfl) (hnd : ndOk c.ro ops.toList = true := by rfl) : GI c (.code (.region id ops true) :: k) F H S := by
  intro E a w h1 h2 h3 h4
  have hd := Stays.drew w
  have h4' := h4.stays hd
  have inv := Inv.start h4' nb [] (fun i e he => by simp at he) zf
  refine Reach.of_any (Sp := Sx (some ⟨w.drew, nb, [], KeepK w.drew E nb [], zf⟩)) (ds := ds) hnd hm hn ?_
  exact (okL_sound (okC_sound hyl T) sch n false _ a w.drew hs (hyl ▸ h w.drew _ E a w.drew h1 h2 (h3.mono h4.YZ (Env.le_refl E) (fun _ _ => rfl)) h4' (fun s hs => by cases hs; exact ⟨rfl, inv⟩))).1 rfl
end
/-- A box that may be written in the region. -/
def stN (st : Option St) (j : Nat) : Bool := match st with
  | none => false
  | some s => Nat.ble s.n1 j
section
variable {c : Ctx} {ops : Array Oper} {kz : Kz} {q st : Option St} {i : Nat} {sch : List (Nat × Md)} {F : Fr} {H : Hp} {S : Sp} {o : Oper}
theorem r_storeO {t : TypeId} {y : Ty} {x z : Operand} {j off : Nat} {v : AV} {u : TypeId} {cs ds : List AV} (hT : TabOk c.P c.T) (hi : ops[i]? = some o) (hop : o.op = .store t x z) (hd : o.dst = none) (hg : gOk ops F o.guard = some true)
    (hx : ev F x = some (.box j off)) (hz : ev F z = some v) (hv : cellsA v = some ds) (hy : c.T.get t = some y) (hH : H[j]? = some (some (u, cs))) (hl : (Nat.beq ds.length y.size && Nat.ble (off + y.size) cs.length) = true) (hs : stN st j = true)
    (h : GR c ops kz q st sch F (H.set j (some (u, setFrom cs off ds))) S) (hmp : isMp u = false := by rfl) (hmo : isMo off = false := by rfl) : GR c ops kz q st ((i, .o) :: sch) F H S := by
  intro E a w h1 h2 h3 h4 h5
  rw [Bool.and_eq_true] at hl
  have hl1 : ds.length = y.size := Nat.eq_of_beq_eq_true hl.1
  have hl2 := Nat.le_of_ble_eq_true hl.2
  obtain ⟨vs, e1, e2, e3⟩ := cellsA_ok hv (h3.ev hz)
  obtain ⟨b, us, k1, k2, k3, k4⟩ := h4.box j _ cs hH
  have hp := h3.ev hx
  unfold C at hp
  obtain ⟨b', hb', hpv⟩ := hp
  rw [k1] at hb'; cases hb'
  rw [hnd_p hmo] at hpv
  rw [objOf_c hmp] at k2
  obtain ⟨w', m1, m2, m3, m4, m5, m6, m7⟩ := run_storeVar (hT t y hy) (o := off) k2 e1 ((CL_length e2).trans hl1) e3 (by rw [CL_length k3]; omega)
  have hsat := h4.upd (w' := w') hH k1 ⟨by rw [m4]; exact Nat.le_refl _, fun k _ hk => m3 k hk, m5, m6, m7, run_drawn _ _ _ _ m1⟩ (by rw [objOf_c hmp]; exact m2) (CL_setFrom k3 e2) (setV_one k4 e3)
  have h5' : ∀ s, st = some s → q = some s ∧ Inv s E w' := fun s hs' => by
    obtain ⟨hq, inv⟩ := h5 s hs'
    have hb : ∀ x, s.K x → x ≠ b := fun x hx e => by
      subst e
      rcases inv.dis x _ hx (h4.oB j x k1) with ⟨i', e', hlt⟩ | ⟨k', e', _⟩
      · cases e'
        subst hs'
        simp only [stN] at hs
        have := Nat.le_of_ble_eq_true hs
        omega
      · cases e'
    exact ⟨hq, ⟨by rw [m4]; exact inv.keeps.1, fun x hx => (m3 x (hb x hx)).trans (inv.keeps.2 x hx)⟩, inv.below, inv.B, inv.V, inv.Z, inv.dis⟩
  refine seq_skip hi (gOk_ok (o := o) h3 hg) (w' := w') ?_ (.inl ⟨rfl, sx_of h5' ?_⟩) ?_
  · unfold execOp
    simp only [hop, hpv, Instr.storeAt, Instr.sureAddr, pure_bind, Sem.run_bind, m1, Result.andThen_ok, Sem.run_pure]
  · cases st with
    | none => cases hs
    | some s => rfl
  · rw [hd]
    exact h E a w' h1 h2 (h3.mono h4.YZ (Env.le_refl E) (fun b hb => m3 b (fun e => (h4.bB k1).2.2 (e ▸ hb)))) hsat h5'
end
end Go.Proofs.Ytmocggibcniggaa.Kw
namespace Go.Proofs.Ytmocggibcniggaa.Kw
open Go Go.ChangeShapes Go.WideShapes Go.Deep
/-! ### what comes in, by its type -/
def Shaped (P : Program) : Nat → TypeId → List RV → Prop
  | 0, _, _ => False
  | n + 1, t, rv => match P.underlying t with
    | some (.int k) => ∃ m, rv = [.v (.int k m)] ∧ (Lit.int k m).wf = true
    | some .bool => ∃ b, rv = [.v (.bool b)]
    | some .string => ∃ s : ByteArray, rv = [.v (.string s)] ∧ s.size ≤ maxLen
    | some (.slice e) => ∃ L, rv = [.rs (P.cellsOf e) L] ∧ L.length ≤ maxLen ∧ ∀ row ∈ L, Shaped P n e row
    | some (.struct fs) => ∃ parts : List (List RV), rv = parts.flatten ∧ parts.length = fs.toList.length ∧ ∀ (i : Nat) (f : Field), fs.toList[i]? = some f → ∃ p, parts[i]? = some p ∧ Shaped P n f.type p
    | _ => False
section
variable {H : Type} {enc : TypeId × Value → H} {P : Program} {w : World} {base : Nat} {spare : Nat → Bool} {held : Bool} {Y Z : Nat → Prop}
theorem RL_app : ∀ {p q : List RV} {a b : List Value}, RL Y Z w p a → RL Y Z w q b → RL Y Z w (p ++ q) (a ++ b)
  | [], q, a, b, h, h' => by unfold RL at h; subst h; exact h'
  | x :: p, q, a, b, h, h' => by
    unfold RL at h
    obtain ⟨u, r, rfl, h1, h2⟩ := h
    show RL Y Z w (x :: (p ++ q)) (u :: (r ++ b))
    unfold RL
    exact ⟨u, r ++ b, rfl, h1, RL_app h2 h'⟩
theorem fields_of {n k tot : Nat} {cs : List Value} (ih : ∀ (t : TypeId) (cs : List Value) (x : DataW H × List MemPlace), okT P k t = true → DataW.trod enc P w base spare held n t cs = some x → ∃ rv, RL Y Z w rv cs ∧ Shaped P k t rv) :
    ∀ (fs : List Field) (o : Nat), contig P tot o fs = true → cs.length = tot → (∀ f ∈ fs, okT P k f.type = true) → (∀ f ∈ fs, ∃ x, DataW.trod enc P w base spare held n f.type ((cs.drop f.offset).take (P.cellsOf f.type)) = some x) →
      ∃ parts : List (List RV), RL Y Z w parts.flatten (cs.drop o) ∧ parts.length = fs.length ∧ ∀ (i : Nat) (f : Field), fs[i]? = some f → ∃ p, parts[i]? = some p ∧ Shaped P k f.type p
  | [], o, hc, hl, _, _ => by
    have := Nat.eq_of_beq_eq_true hc
    subst this
    refine ⟨[], ?_, rfl, fun i f h => by simp at h⟩
    rw [← hl, List.drop_length]
    unfold RL; rfl
  | f :: fs, o, hc, hl, hk, hx => by
    unfold contig at hc
    rw [Bool.and_eq_true] at hc
    obtain ⟨parts, h1, h2, h3⟩ := fields_of ih fs _ hc.2 hl (fun g hg => hk g (by simp [hg])) (fun g hg => hx g (by simp [hg]))
    obtain ⟨x, h4⟩ := hx f (by simp)
    rw [Nat.eq_of_beq_eq_true hc.1] at h4
    obtain ⟨p, h5, h6⟩ := ih f.type _ x (hk f (by simp)) h4
    refine ⟨p :: parts, ?_, by simp [h2], fun i g hg => ?_⟩
    · have := RL_app h5 h1
      rw [← List.drop_drop, List.take_append_drop] at this
      simpa using this
    · cases i with
      | zero => simp at hg; subst hg; exact ⟨p, by simp, h6⟩
      | succ i => simp at hg; obtain ⟨q, h7, h8⟩ := h3 i g hg; exact ⟨q, by simpa using h7, h8⟩
theorem rows_build {sz b : Nat} {Q : List RV → Prop} : ∀ (len o : Nat), (∀ i, i < len → ∃ rv : List RV, rv.length = sz ∧ CAt Y Z w rv b (o + i * sz) ∧ Q rv) → ∃ L : List (List RV), L.length = len ∧ CRows Y Z w sz L b o ∧ ∀ row ∈ L, Q row
  | 0, o, _ => ⟨[], rfl, by unfold CRows; trivial, fun r h => by simp at h⟩
  | len + 1, o, h => by
    obtain ⟨rv, h1, h2, h3⟩ := h 0 (by omega)
    obtain ⟨L, h4, h5, h6⟩ := rows_build len (o + sz) (fun i hi => by
      obtain ⟨rv, k1, k2, k3⟩ := h (i + 1) (by omega)
      refine ⟨rv, k1, ?_, k3⟩
      rw [show o + sz + i * sz = o + (i + 1) * sz from by rw [Nat.add_mul]; omega]
      exact k2)
    refine ⟨rv :: L, by simp [h4], ?_, fun r hr => ?_⟩
    · unfold CRows
      exact ⟨h1, by simpa using h2, h5⟩
    · rcases List.mem_cons.1 hr with rfl | hr
      · exact h3
      · exact h6 r hr
theorem one_cell {k : IntKind} {m : Int} : RL Y Z w [.v (.int k m)] [.int k m] := by
  unfold RL; exact ⟨_, _, rfl, by unfold CR; exact ⟨rfl, rfl⟩, by unfold RL; rfl⟩
theorem cell_lt {a : Addr} {v : Value} (h : w.cell? a = some v) : a.block < w.heap.size ∧ a.spot = none := by
  unfold World.cell? at h
  split at h
  · rename_i c t s hh
    refine ⟨(Array.getElem?_eq_some_iff.1 hh).1, ?_⟩
    split at h
    · cases h
    · rename_i hs; simpa using hs
  · cases h
theorem shaped_of (hZ : ∀ b, b < w.heap.size → Z b) : ∀ (k n : Nat) (t : TypeId) (cs : List Value) (x : DataW H × List MemPlace), okT P k t = true → DataW.trod enc P w base spare held n t cs = some x → ∃ rv, RL Y Z w rv cs ∧ Shaped P k t rv
  | 0, n, t, cs, x, h, _ => by simp [okT] at h
  | k + 1, n, t, cs, x, h, ht => by
    unfold okT at h
    unfold Shaped
    cases hu : P.underlying t with
    | none => simp [hu] at h
    | some d =>
      cases d with
      | int kk =>
        obtain ⟨m, rfl, _, hw⟩ := DataW.trod_int hu ht
        exact ⟨_, one_cell, m, rfl, hw⟩
      | bool =>
        obtain ⟨b, rfl, _⟩ := DataW.trod_bool hu ht
        exact ⟨[.v (.bool b)], by unfold RL; exact ⟨_, _, rfl, by unfold CR; exact ⟨rfl, rfl⟩, by unfold RL; rfl⟩, b, rfl⟩
      | string =>
        obtain ⟨s, rfl, _, hs⟩ := DataW.trod_string hu ht
        exact ⟨[.v (.string s)], by unfold RL; exact ⟨_, _, rfl, by unfold CR; exact ⟨rfl, rfl⟩, by unfold RL; rfl⟩, s, rfl, hs⟩
      | slice e =>
        simp only [hu, Bool.and_eq_true] at h
        obtain ⟨⟨_, hk⟩, hpos⟩ := h
        have hpos := Nat.le_of_ble_eq_true hpos
        rcases open_slice hu ht with ⟨rfl, _⟩ | ⟨a, len, cap, m, n', D, Pl, rfl, _, hl, hm, hmm, _, hi⟩
        · refine ⟨[.rs (P.cellsOf e) []], ?_, [], rfl, Nat.zero_le _, fun r h => by simp at h⟩
          unfold RL
          refine ⟨_, _, rfl, ?_, by unfold RL; rfl⟩
          unfold CR
          exact ⟨none, 0, rfl, Nat.le_refl _, Nat.zero_le _, .inl rfl⟩
        · have hlm : len ≤ m := by rw [hmm]; split <;> omega
          have cells : ∀ i, i < len → ∃ rv : List RV, rv.length = P.cellsOf e ∧ CAt Y Z w rv a.block (a.off + i * P.cellsOf e) ∧ Shaped P k e rv := by
            intro i hi'
            obtain ⟨cs', h1, h2⟩ := hi i (by omega)
            obtain ⟨_, h3, h4⟩ := World.cells?_some h1
            obtain ⟨rv, h5, h6⟩ := shaped_of hZ k n' e cs' _ hk h2
            refine ⟨rv, by rw [← h3]; exact (RL_length h5).symm, RL_CAt h5 (fun j u hu' => ?_), h6⟩
            have hj : j < P.cellsOf e := by rw [← h3]; exact (List.getElem?_eq_some_iff.1 hu').1
            have h7 := h4 j hj
            rw [hu'] at h7
            have h8 := (cell_lt h7).2
            have : (a.add (i * P.cellsOf e)).add j = ⟨a.block, a.off + i * P.cellsOf e + j, none⟩ := by
              have e1 : ∀ (b : Addr) (q : Nat), (b.add q).block = b.block ∧ (b.add q).off = b.off + q := fun b q => by unfold Addr.add; split <;> simp_all
              generalize hx : (a.add (i * P.cellsOf e)).add j = y at h8
              have := e1 (a.add (i * P.cellsOf e)) j
              have := e1 a (i * P.cellsOf e)
              cases y
              simp_all
            rw [← this]; exact h7
          obtain ⟨L, h1, h2, h3⟩ := rows_build len a.off cells
          refine ⟨[.rs (P.cellsOf e) L], ?_, L, rfl, by omega, h3⟩
          unfold RL
          refine ⟨_, _, rfl, ?_, by unfold RL; rfl⟩
          unfold CR
          refine ⟨some a, cap, by rw [h1], by omega, hm, ?_⟩
          rcases Nat.eq_zero_or_pos len with h0 | h0
          · left; subst h0; exact List.eq_nil_of_length_eq_zero h1
          · right
            obtain ⟨cs', k1, k2⟩ := hi 0 (by omega)
            obtain ⟨_, k3, k4⟩ := World.cells?_some k1
            have k5 := k4 0 hpos
            rw [List.getElem?_eq_getElem (by omega)] at k5
            have e0 : (a.add (0 * P.cellsOf e)).add 0 = a := by simp [Addr.add]
            rw [e0] at k5
            obtain ⟨k6, k7⟩ := cell_lt k5
            refine ⟨a.block, a.off, ?_, hZ _ k6, h2⟩
            cases a
            simp at k7
            subst k7
            rfl
      | struct fs =>
        simp only [hu, Bool.and_eq_true, List.all_eq_true] at h
        obtain ⟨xs, n', _, _, hl, hlen, hf⟩ := DataW.trod_struct hu ht
        obtain ⟨parts, h1, h2, h3⟩ := fields_of (fun t cs x => shaped_of hZ k n' t cs x) fs.toList 0 h.1 hl h.2 (fun f hfm => by
          obtain ⟨i, hi⟩ := List.getElem?_of_mem hfm
          have h4 := hf i f (by simpa using hi)
          have : i < xs.length := by rw [hlen]; have := (List.getElem?_eq_some_iff.1 hi).1; simpa using this
          rw [List.getElem?_eq_getElem this] at h4
          exact ⟨_, h4⟩)
        exact ⟨parts.flatten, by simpa using h1, parts, rfl, h2, h3⟩
      | _ => simp [hu] at h
end
end Go.Proofs.Ytmocggibcniggaa.Kw
namespace Go.Proofs.Ytmocggibcniggaa.Kw
open Go Go.ChangeShapes Go.WideShapes Go.ChangeAt Go.RowKit
/-! ### from a law's contract to its row -/
theorem Sat.below {w0 w : World} {Z Y : Nat → Prop} {n : Nat} {B : Nat → Option Nat} {E : Env} {H : Hp} {S : Sp} (h : Sat w0 ⟨fun _ => False, Z, Y, n, B, 0, fun _ => none⟩ E H S w) : Below w0.heap.size w0 w :=
  ⟨h.os, h.tape, h.output, h.size, fun k hk => h.old k hk (fun h => h)⟩
abbrev Zof (w : World) : Nat → Prop := fun b => b < w.heap.size
abbrev E0 (w : World) : Env := ⟨[], [], [], fun _ => none, fun _ => False, Zof w⟩
theorem Sat.init (w : World) : Sat w ⟨fun _ => False, (E0 w).Z, (E0 w).Y, 0, fun i => (E0 w).B[i]?, 0, fun _ => none⟩ (E0 w) [] [] w where
  lB := rfl
  lV := rfl
  lP := rfl
  box := fun i t cs h => by simp at h
  sl := fun k e h => by simp at h
  oB := fun i b h => by simp at h
  oP := fun k e fp b h => by simp at h
  PN := fun k e fp h => by simp at h
  own := fun b x h => by cases h
  YZ := fun b h => h.elim
  Z := fun b h => h
  old := fun _ _ _ => rfl
  size := Nat.le_refl _
  os := rfl
  tape := rfl
  dr := Nat.le_refl _
  output := rfl
  zin := fun b hb => .inl hb
  zup := fun b hb => hb
  yin := fun b hb => .inl hb
  yup := fun b hb => hb
  bup := fun i b h _ => absurd h (Nat.not_lt_zero _)
  vup := fun i b h _ => absurd h (Nat.not_lt_zero _)
section
variable {H : Type} {enc : TypeId × Value → H} {P : Program} {w : World} {base : Nat} {spare : Nat → Bool} {held : Bool}
theorem arg_one {k : Nat} {t : TypeId} {v : Value} {d : DataW H} {p : List MemPlace} {Q : RV → Prop} (hk : okT P k t = true) (hc : v.cells = #[v]) (h : DataW.Trod enc P w base spare held t v d p) (hsh : ∀ rv, Shaped P k t rv → ∃ x, rv = [x] ∧ Q x) :
    ∃ x, Q x ∧ C (E0 w) w (.r x) v := by
  obtain ⟨fuel, hf⟩ := h
  obtain ⟨rv, h1, h2⟩ := shaped_of (Y := fun _ => False) (Z := Zof w) (fun _ h => h) k fuel t _ _ hk hf
  obtain ⟨x, rfl, hq⟩ := hsh rv h2
  refine ⟨x, hq, ?_⟩
  rw [hc] at h1
  unfold RL at h1
  obtain ⟨u, r, h3, h4, _⟩ := h1
  simp at h3
  obtain ⟨rfl, _⟩ := h3
  unfold C
  exact h4
theorem trodAll_below (hl : laidOutB P = true) {W W' : World} (hb : Below W.heap.size W W') : ∀ {ts : List TypeId} {vs : List Value} {ds : List (DataW H)} {ps : List MemPlace}, (ts.all fun t => P.readableRec t && decide (t < P.types.size)) = true →
    DataW.TrodAll enc P W 0 (fun _ => true) true ts vs ds ps → DataW.TrodAll enc P W' 0 (fun b => decide (b < W.heap.size)) true ts vs ds ps
  | [], [], [], ps, _, h => h
  | t :: ts, v :: vs, d :: ds, ps, ht, h => by
    obtain ⟨p, q, h1, h2, rfl⟩ := h
    simp only [List.all_cons, Bool.and_eq_true, decide_eq_true_eq] at ht
    refine ⟨p, q, Below.trod hl ht.1.1 ht.1.2 h1 hb (fun x hx => ?_), trodAll_below hl hb ht.2 h2, rfl⟩
    obtain ⟨m, hm⟩ := h1
    exact DataW.trod_lt m _ _ _ hm x hx
  | [], _ :: _, _, _, _, h => h.elim
  | [], [], _ :: _, _, _, h => h.elim
  | _ :: _, [], _, _, _, h => h.elim
  | _ :: _, _ :: _, [], _, _, h => h.elim
end
section
variable {P : Program} {k : Nat} {t : TypeId} {rv : List RV}
theorem sh_int {kk : IntKind} (hu : P.underlying t = some (.int kk)) (h : Shaped P (k + 1) t rv) : ∃ m, rv = [.v (.int kk m)] ∧ (Lit.int kk m).wf = true := by
  unfold Shaped at h; rw [hu] at h; exact h
theorem sh_slice {e : TypeId} (hu : P.underlying t = some (.slice e)) (h : Shaped P (k + 1) t rv) : ∃ L, rv = [.rs (P.cellsOf e) L] ∧ L.length ≤ maxLen ∧ ∀ row ∈ L, Shaped P k e row := by
  unfold Shaped at h; rw [hu] at h; exact h
theorem of_wf_u8 {m : Int} (h : (Lit.int .u8 m).wf = true) : 0 ≤ m ∧ m ≤ 255 := by
  simp [Lit.wf, IntKind.min, IntKind.max, IntKind.bits, IntKind.signed] at h
  omega
end
theorem CL_nil' {E : Env} {w : World} : CL E w [] [] := by unfold CL; rfl
theorem CL_cons' {E : Env} {w : World} {x : AV} {u : Value} {xs : List AV} {us : List Value} (h : C E w x u) (hs : CL E w xs us) : CL E w (x :: xs) (u :: us) := by
  unfold CL; exact ⟨_, _, rfl, h, hs⟩
end Go.Proofs.Ytmocggibcniggaa.Kw
namespace Go.Proofs.Ytmocggibcniggaa.Kw
open Go Go.ChangeShapes Go.WideShapes
/-! ### numbers, Bools, slices of numbers, as they come in -/
section
variable {P : Program} {k : Nat} {t e : TypeId} {rv : List RV}
theorem ints_of {kk : IntKind} (hu : P.underlying e = some (.int kk)) : ∀ {L : List (List RV)}, (∀ row ∈ L, Shaped P (k + 1) e row) → ∃ l : List Int, L = l.map (fun n => [.v (.int kk n)]) ∧ ∀ n ∈ l, (Lit.int kk n).wf = true
  | [], _ => ⟨[], rfl, fun n h => by simp at h⟩
  | r :: L, h => by
    obtain ⟨m, rfl, hm⟩ := sh_int hu (h r (by simp))
    obtain ⟨l, rfl, hl⟩ := ints_of hu (L := L) (fun row hr => h row (by simp [hr]))
    refine ⟨m :: l, rfl, fun n hn => ?_⟩
    rcases List.mem_cons.1 hn with rfl | hn
    · exact hm
    · exact hl n hn
end
section
variable {H : Type} {enc : TypeId × Value → H} {P : Program} {w : World} {base b0 : Nat} {spare : Nat → Bool} {held : Bool} {t e : TypeId} {v : Value} {d : DataW H} {p : List MemPlace}
theorem arg_int {kk : IntKind} (hu : P.underlying t = some (.int kk)) (hv : Value.okWide P w .any b0 t v) (h : DataW.Trod enc P w base spare held t v d p) : ∃ m : Int, (Lit.int kk m).wf = true ∧ C (E0 w) w (.r (.v (.int kk m))) v := by
  obtain ⟨n, rfl, _, _, hw⟩ := ChangeShapes.open_int hu hv h
  exact ⟨n, hw, by unfold C CR; exact ⟨rfl, rfl⟩⟩
theorem arg_slice {k : Nat} {Q : List (List RV) → Prop} (hu : P.underlying t = some (.slice e)) (hk : okT P (k + 2) t = true) (hv : Value.okWide P w .any b0 t v) (h : DataW.Trod enc P w base spare held t v d p)
    (hq : ∀ L, (∀ row ∈ L, Shaped P (k + 1) e row) → L.length ≤ maxLen → Q L) : ∃ L, Q L ∧ C (E0 w) w (.r (.rs (P.cellsOf e) L)) v := by
  obtain ⟨A, ln, cp, rfl⟩ := Go.WideShapes.okWide_slice hu hv
  obtain ⟨x, ⟨L, rfl, hL⟩, h2⟩ := arg_one (k := k + 2) (Q := fun x => ∃ L, x = .rs (P.cellsOf e) L ∧ Q L) hk rfl h (fun rv hs => by
    obtain ⟨L, rfl, h1, hL⟩ := sh_slice hu hs
    exact ⟨_, rfl, L, rfl, hq L hL h1⟩)
  exact ⟨L, hL, h2⟩
theorem arg_ints {kk : IntKind} (hu : P.underlying t = some (.slice e)) (he : P.underlying e = some (.int kk)) (hk : okT P 2 t = true) (hc : P.cellsOf e = 1) (hv : Value.okWide P w .any b0 t v) (h : DataW.Trod enc P w base spare held t v d p) :
    ∃ l : List Int, (∀ n ∈ l, (Lit.int kk n).wf = true) ∧ C (E0 w) w (.r (.rs 1 (l.map fun n => [.v (.int kk n)]))) v := by
  obtain ⟨L, ⟨l, rfl, hl⟩, h2⟩ := arg_slice (k := 0) (Q := fun L => ∃ l : List Int, L = l.map (fun n => [.v (.int kk n)]) ∧ ∀ n ∈ l, (Lit.int kk n).wf = true) hu hk hv h (fun L hL _ => ints_of he hL)
  rw [hc] at h2
  exact ⟨l, hl, h2⟩
end
end Go.Proofs.Ytmocggibcniggaa.Kw
