/- The framework of this seat's proofs, part 4: a walk through a function over a symbolic state, proved sound. No condition. -/
import Derived.Test.YtmocggibcniggaaK3
import Derived.WideKeyRuns
import Derived.MapKept
import Derived.Shelf.SlSortCmp.InsertionK
set_option linter.unusedSimpArgs false
set_option linter.unusedVariables false
namespace Go.Proofs.Ytmocggibcniggaa.Kw
open Go
theorem C_nil_fs {E : Env} {w : World} {u : Value} {sz : Nat} (h : C E w (.r (.v (.slice none 0 0))) u) : C E w (.r (.fs sz [])) u := by
  unfold C CR at *
  exact ⟨none, 0, by simpa using h.1, Nat.le_refl _, Nat.zero_le _, .inl rfl⟩
theorem FnR.x {P : Program} {g : FuncId} {args : List AV} {Post : AV → Sp → Prop} (h : FnR P g args Post) : FnX P g args [] [] (fun r H S => H = [] ∧ Post r S) := h
theorem fnR_of {P : Program} {g : FuncId} {args : List AV} {Post : AV → Sp → Prop} (h : FnX P g args [] [] (fun r H S => H = [] ∧ Post r S)) : FnR P g args Post := h
section
variable {c : Ctx} {k : List Item} {F : Fr} {H : Hp} {S : Sp} {ops : Array Oper} {kz : Kz} {q st : Option St} {sch : List (Nat × Md)}
theorem sat_cvH {w0 w : World} {X : Org} {E : Env} {t : TypeId} {cs : List AV} {x y : AV} (b j : Nat) (hH : H[b]? = some (some (t, cs))) (hj : cs[j]? = some x) (hxy : ∀ E w u, C E w x u → C E w y u) (hsat : Sat w0 X E H S w) : Sat w0 X E (H.set b (some (t, cs.set j y))) S w := by
  have hlb : b < H.length := (List.getElem?_eq_some_iff.1 hH).1
  refine { hsat with lB := by rw [List.length_set]; exact hsat.lB, box := fun i t' cs' hi => ?_ }
  rw [List.getElem?_set] at hi
  split at hi
  · rename_i hbi
    subst hbi
    simp only [Option.some.injEq, Prod.mk.injEq] at hi
    obtain ⟨rfl, rfl⟩ := hi
    obtain ⟨b', us, q1, q2, q3, q4⟩ := hsat.box b t cs hH
    exact ⟨b', us, q1, q2, CL_setx (hxy _ _) hj q3, q4⟩
  · exact hsat.box i t' cs' hi
/-- A nil slice in a box's cell is read as an empty one that stays. -/
theorem gi_nilH (b j sz : Nat) {t : TypeId} {cs : List AV} (hH : H[b]? = some (some (t, cs))) (hj : cs[j]? = some (.r (.v (.slice none 0 0)))) (h : GI c k F (H.set b (some (t, cs.set j (.r (.fs sz []))))) S) : GI c k F H S :=
  fun E a w h1 h2 h3 h4 => h E a w h1 h2 h3 (sat_cvH b j hH hj (fun _ _ _ hu => C_nil_fs hu) h4)
end
end Go.Proofs.Ytmocggibcniggaa.Kw
namespace Go.Proofs.Ytmocggibcniggaa.Kw
open Go
/-! ## maps with keys of two numbers -/
section
variable {P : Program} {w : World}
theorem flat_field : ∀ {L : List Field} {i : Nat} {ks : List (Option IntKind)}, flatKs P i L = some ks → ∀ f ∈ L, f.name ≠ "_" ∧ f.offset < i + L.length ∧ ((∃ k, P.underlying f.type = some (.int k)) ∨ P.underlying f.type = some .bool)
  | [], i, ks, h, f, hf => by cases hf
  | g :: L, i, ks, h, f, hf => by
    unfold flatKs at h
    have hb : ∀ r, (r = true → g.offset = i ∧ g.name ≠ "_") → (Nat.beq g.offset i && g.name != "_") = r → r = true → g.offset = i ∧ g.name ≠ "_" := fun r h _ => h
    have hon : (Nat.beq g.offset i && g.name != "_") = true → g.offset = i ∧ g.name ≠ "_" := fun e => by
      rw [Bool.and_eq_true] at e
      exact ⟨Nat.eq_of_beq_eq_true e.1, by simpa using e.2⟩
    split at h
    · rename_i k hc hu
      obtain ⟨h1, h2⟩ := hon hc
      rw [Option.map_eq_some_iff] at h
      obtain ⟨ks', h', _⟩ := h
      rcases List.mem_cons.1 hf with rfl | hf
      · exact ⟨h2, by simp; omega, .inl ⟨k, hu⟩⟩
      · obtain ⟨q1, q2, q3⟩ := flat_field h' f hf
        exact ⟨q1, by simp only [List.length_cons]; omega, q3⟩
    · rename_i hc hu
      obtain ⟨h1, h2⟩ := hon hc
      rw [Option.map_eq_some_iff] at h
      obtain ⟨ks', h', _⟩ := h
      rcases List.mem_cons.1 hf with rfl | hf
      · exact ⟨h2, by simp; omega, .inr hu⟩
      · obtain ⟨q1, q2, q3⟩ := flat_field h' f hf
        exact ⟨q1, by simp only [List.length_cons]; omega, q3⟩
    · cases h
theorem flat_len : ∀ {L : List Field} {i : Nat} {ks : List (Option IntKind)}, flatKs P i L = some ks → ks.length = L.length
  | [], i, ks, h => by unfold flatKs at h; cases h; rfl
  | g :: L, i, ks, h => by
    unfold flatKs at h
    split at h
    · rw [Option.map_eq_some_iff] at h
      obtain ⟨ks', h', rfl⟩ := h
      simp [flat_len h']
    · rw [Option.map_eq_some_iff] at h
      obtain ⟨ks', h', rfl⟩ := h
      simp [flat_len h']
    · cases h
theorem run_chk {kt : TypeId} {ks : List (Option IntKind)} (hk : flatK P kt = some ks) {us : Array Value} (hs : ks.length ≤ us.size) (em : Bool) : (Instr.checkKey em 10000 kt (.agg us)).run P w = .ok () w := by
  unfold flatK at hk
  split at hk
  · rename_i fs hu
    split at hk
    · have hl := flat_len hk
      have deep : ∀ f ∈ fs.toList, f.name ≠ "_" ∧ (∃ u, (part f.type us f.offset).run P w = .ok u w ∧ (Instr.checkKey em 9999 f.type u).run P w = .ok () w) := fun f hf => by
        obtain ⟨h1, h2, h3⟩ := flat_field hk f hf
        refine ⟨h1, ?_⟩
        obtain ⟨u, hu'⟩ : ∃ u, us[f.offset]? = some u := ⟨_, Array.getElem?_eq_getElem (by omega)⟩
        have go : ∀ d, P.underlying f.type = some d → isAggD d = false → (∀ u, (Instr.checkKey em 9999 f.type u).run P w = .ok () w) → ∃ u, (part f.type us f.offset).run P w = .ok u w ∧ (Instr.checkKey em 9999 f.type u).run P w = .ok () w := fun d hd hag hc => by
          obtain ⟨i, hi⟩ := info_of_underlying hd
          exact ⟨u, part_ok hd hi (by rw [hag]; simpa using hu') w, hc u⟩
        rcases h3 with ⟨k, h3⟩ | h3
        · refine go _ h3 rfl (fun u => ?_)
          show (Instr.checkKey em (9998 + 1) f.type u).run P w = _
          rw [Instr.checkKey]
          simp only [Sem.run_bind, run_underlying_ h3, Result.andThen_ok, Sem.run_pure]
        · refine go _ h3 rfl (fun u => ?_)
          show (Instr.checkKey em (9998 + 1) f.type u).run P w = _
          rw [Instr.checkKey]
          simp only [Sem.run_bind, run_underlying_ h3, Result.andThen_ok, Sem.run_pure]
      show (Instr.checkKey em (9999 + 1) kt (.agg us)).run P w = _
      rw [Instr.checkKey]
      simp only [Sem.run_bind, run_underlying_ hu, Result.andThen_ok]
      rw [← Array.forIn_toList]
      generalize fs.toList = L at deep
      clear hk hl
      induction L with
      | nil => simp
      | cons f L ih =>
        obtain ⟨hn, u, p1, p2⟩ := deep f (by simp)
        simp only [List.forIn_cons, Sem.run_bind, hn, ne_eq, not_false_eq_true, if_true, Result.andThen_ok, p1, p2, Sem.run_pure]
        exact ih (fun y hy => deep y (by simp [hy]))
    · cases hk
  · cases hk
/-- What a map holds: keys, values. -/
abbrev MapL := List (Int × Int × Value)
def mapV : MapL → List Value
  | [] => []
  | (a, b, v) :: l => .int .i64 a :: .int .i64 b :: v :: mapV l
def mapC : MapL → List AV
  | [] => []
  | (a, b, v) :: l => .r (.v (.int .i64 a)) :: .r (.v (.int .i64 b)) :: .r (.v v) :: mapC l
def entL : Nat → MapL → List MapEntry
  | _, [] => []
  | n, (a, b, v) :: l => ⟨.agg #[.int .i64 a, .int .i64 b], v, n⟩ :: entL (n + 1) l
theorem ents_mapV : ∀ (l : MapL) (n : Nat), entsV n (mapV l) = entL n l
  | [], n => rfl
  | (a, b, v) :: l, n => by unfold mapV entsV entL; rw [ents_mapV l]
theorem entL_len : ∀ (l : MapL) (n : Nat), (entL n l).length = l.length
  | [], n => rfl
  | (a, b, v) :: l, n => by unfold entL; simp [entL_len l]
def keq (a b c d : Int) : Bool := eqB a c && (eqB b d && true)
theorem keq_iff {a b c d : Int} : keq a b c d = decide (a = c ∧ b = d) := by
  unfold keq
  rw [eqB_eq, eqB_eq, Bool.beq_eq_decide_eq, Bool.beq_eq_decide_eq, Bool.and_true, ← Bool.decide_and]
/-- Where a key stands. -/
def lookM (a b : Int) : MapL → Option (Nat × Value)
  | [] => none
  | (c, d, v) :: l => match keq a b c d with
    | true => some (0, v)
    | false => (lookM a b l).map fun p => (p.1 + 1, p.2)
theorem run_keyeq {kt : TypeId} (hk : flatK P kt = some [some .i64, some .i64]) (E : Env) (a b c d : Int) (w' : World) : (Op.equal kt (.agg #[.int .i64 a, .int .i64 b]) (.agg #[.int .i64 c, .int .i64 d])).run P w' = .ok (keq a b c d) w' := by
  have hC : ∀ a b : Int, C E w' (.agg [.r (.v (.int .i64 a)), .r (.v (.int .i64 b))]) (.agg #[.int .i64 a, .int .i64 b]) := fun a b => by
    unfold C
    refine ⟨[.int .i64 a, .int .i64 b], rfl, ?_, ?_⟩
    · unfold CL; refine ⟨_, _, rfl, C_v_mk rfl, ?_⟩
      unfold CL; refine ⟨_, _, rfl, C_v_mk rfl, ?_⟩
      unfold CL; rfl
    · intro x hx
      simp only [List.mem_cons, List.not_mem_nil, or_false] at hx
      rcases hx with rfl | rfl <;> rfl
  exact (eqT_run hk (b := keq a b c d) rfl (hC a b) (hC c d) (.tmp 0) (.tmp 0) .eql w').2
theorem run_findA {kt : TypeId} (hk : flatK P kt = some [some .i64, some .i64]) (E : Env) (a b : Int) : ∀ (l : MapL) (n i : Nat), (Instr.findAsking kt (.agg #[.int .i64 a, .int .i64 b]) (entL n l) i).run P w = .ok ((lookM a b l).map fun p => (p.1 + i, p.2)) w
  | [], n, i => rfl
  | (c, d, v) :: l, n, i => by
    unfold entL Instr.findAsking lookM
    rw [Sem.run_bind, run_keyeq hk E a b c d w, Result.andThen_ok]
    cases hq : keq a b c d with
    | true => simp
    | false =>
      simp only [Bool.false_eq_true, if_false]
      rw [run_findA hk E a b l (n + 1) (i + 1)]
      cases lookM a b l with
      | none => rfl
      | some p => simp [Nat.add_comm, Nat.add_left_comm]
theorem flat_wide {kt : TypeId} {ks : List (Option IntKind)} (hk : flatK P kt = some ks) : (match P.underlying kt with | some (.array _ _) | some (.struct _) => true | _ => false) = true := by
  unfold flatK at hk
  split at hk
  · rename_i fs hu; rw [hu]
  · cases hk
theorem run_findK {kt : TypeId} (hk : flatK P kt = some [some .i64, some .i64]) (E : Env) (a b : Int) (l : MapL) (n : Nat) : (Instr.findKey kt (.agg #[.int .i64 a, .int .i64 b]) (entL n l)).run P w = .ok (lookM a b l) w := by
  rw [run_findKey_eq w (flat_wide hk), run_findA hk E a b l n 0]
  cases lookM a b l with
  | none => rfl
  | some p => rfl
theorem run_lookup {t kt et : TypeId} {z : Value} (hm : P.underlying t = some (.map kt et)) (hk : flatK P kt = some [some .i64, some .i64]) (hz : (zeroValue et).run P w = .ok z w) (E : Env) {b : Nat} {l : MapL} (hb : w.heap[b]? = some (objOf 4294967295 (mapV l))) (a c : Int) (ok : Bool) :
    (Instr.lookup t (.map (some b)) (.agg #[.int .i64 a, .int .i64 c]) ok).run P w = .ok (if ok then .tuple #[((lookM a c l).map (·.2)).getD z, .bool (lookM a c l).isSome] else ((lookM a c l).map (·.2)).getD z) w := by
  have hb' : w.heap[b]? = some (.map (List.toArray (entL 0 l)) l.length) := by rw [hb]; unfold objOf; simp only [show isMp 4294967295 = true from rfl, ents_mapV, entL_len]
  have hf := run_findK (w := w) hk E a c l 0
  unfold Instr.lookup
  simp only [Sem.run_bind, run_underlying_ hm, Result.andThen_ok, MapKept.run_getObj_map hb', Sem.run_pure]
  rw [run_chk hk (by simp)]
  simp only [Result.andThen_ok, hf]
  cases hl : lookM a c l with
  | none => simp [hz, Result.andThen_ok]
  | some p => cases p; simp
/-- A key has this value from now on. -/
def updM (a b : Int) (v : Value) : MapL → MapL
  | [] => [(a, b, v)]
  | (c, d, x) :: l => match keq a b c d with
    | true => (c, d, v) :: l
    | false => (c, d, x) :: updM a b v l
theorem entL_none {a b : Int} {v : Value} : ∀ {l : MapL} {n : Nat}, lookM a b l = none → entL n (updM a b v l) = entL n l ++ [⟨.agg #[.int .i64 a, .int .i64 b], v, n + l.length⟩] ∧ (updM a b v l).length = l.length + 1
  | [], n, h => ⟨rfl, rfl⟩
  | (c, d, x) :: l, n, h => by
    unfold lookM at h
    unfold updM
    cases hq : keq a b c d with
    | true => rw [hq] at h; cases h
    | false =>
      rw [hq] at h
      have hl : lookM a b l = none := by
        cases hl : lookM a b l with
        | none => rfl
        | some p => rw [hl] at h; cases h
      obtain ⟨e1, e2⟩ := entL_none (v := v) (n := n + 1) hl
      simp only
      unfold entL
      rw [e1]
      refine ⟨?_, by simp [e2]⟩
      simp only [List.cons_append, List.length_cons]
      rw [show n + 1 + l.length = n + (l.length + 1) by omega]
theorem entL_some {a b : Int} {v : Value} : ∀ {l : MapL} {n i : Nat} {x : Value}, lookM a b l = some (i, x) → (∃ e, (entL n l)[i]? = some e ∧ e.key = .agg #[.int .i64 a, .int .i64 b]) ∧ (entL n l).modify i (fun e => { e with key := .agg #[.int .i64 a, .int .i64 b], val := v }) = entL n (updM a b v l) ∧ (updM a b v l).length = l.length
  | [], n, i, x, h => by cases h
  | (c, d, y) :: l, n, i, x, h => by
    unfold lookM at h
    unfold updM
    cases hq : keq a b c d with
    | true =>
      rw [hq] at h
      cases h
      rw [keq_iff] at hq
      obtain ⟨rfl, rfl⟩ := of_decide_eq_true hq
      exact ⟨⟨_, rfl, rfl⟩, rfl, rfl⟩
    | false =>
      rw [hq] at h
      cases hl : lookM a b l with
      | none => rw [hl] at h; cases h
      | some p =>
        obtain ⟨j, z⟩ := p
        rw [hl] at h
        cases h
        obtain ⟨⟨e, e1, e2⟩, e3, e4⟩ := entL_some (v := v) (n := n + 1) hl
        refine ⟨⟨e, ?_, e2⟩, ?_, by simp [e4]⟩
        · unfold entL; simpa using e1
        · simp only
          unfold entL
          rw [← e3]
          rfl
theorem same_key (a b : Int) : Instr.sameBits 10000 (.agg #[.int .i64 a, .int .i64 b]) (.agg #[.int .i64 a, .int .i64 b]) = true := by
  show Instr.sameBits (9998 + 1 + 1) _ _ = true
  simp [Instr.sameBits]
theorem run_update {t kt et : TypeId} (hm : P.underlying t = some (.map kt et)) (hk : flatK P kt = some [some .i64, some .i64]) (E : Env) {b : Nat} {l : MapL} (hb : w.heap[b]? = some (objOf 4294967295 (mapV l))) (a c : Int) (v : Value) :
    (Instr.mapUpdate t (.map (some b)) (.agg #[.int .i64 a, .int .i64 c]) v).run P w = .ok () { w with heap := w.heap.setIfInBounds b (objOf 4294967295 (mapV (updM a c v l))) } := by
  have ho : ∀ l : MapL, objOf 4294967295 (mapV l) = .map (List.toArray (entL 0 l)) l.length := fun l => by unfold objOf; simp only [show isMp 4294967295 = true from rfl, ents_mapV, entL_len]
  rw [ho] at hb ⊢
  have hf := run_findK (w := w) hk E a c l 0
  unfold Instr.mapUpdate
  simp only [Sem.run_bind, run_underlying_ hm, Result.andThen_ok, MapKept.run_getObj_map hb, Sem.run_pure]
  rw [run_chk hk (by simp)]
  simp only [Result.andThen_ok, hf]
  cases hl : lookM a c l with
  | none =>
    obtain ⟨e1, e2⟩ := entL_none (v := v) (n := 0) hl
    simp only [Sem.run_pure, MapKept.run_setObj_map _ hb, e1, e2]
    simp
  | some p =>
    obtain ⟨i, x⟩ := p
    obtain ⟨⟨e, q1, q2⟩, q3, q4⟩ := entL_some (v := v) (n := 0) hl
    have hki : ((((List.toArray (entL 0 l))[i]?).map (·.key)).getD (.agg #[.int .i64 a, .int .i64 c])) = .agg #[.int .i64 a, .int .i64 c] := by simp [q1, q2]
    have hst : (Instr.keyThatStays (.agg #[.int .i64 a, .int .i64 c]) (.agg #[.int .i64 a, .int .i64 c])).run P w = .ok (.agg #[.int .i64 a, .int .i64 c]) w := by
      unfold Instr.keyThatStays
      rw [same_key]; rfl
    simp only [Sem.run_bind, hki, hst, Result.andThen_ok, MapKept.run_setObj_map _ hb, List.modify_toArray, q3, q4]
end
end Go.Proofs.Ytmocggibcniggaa.Kw
namespace Go.Proofs.Ytmocggibcniggaa.Kw
open Go
/-! ## the rules of maps: a map is a box of the type 4294967295, its handle stands at the offset 4294967295 -/
section
variable {c : Ctx} {ops : Array Oper} {k : List Item} {kz : Kz} {q st : Option St} {i : Nat} {m : Md} {sch : List (Nat × Md)} {F : Fr} {H : Hp} {S : Sp} {o : Oper} {d : Nat} {E : Env} {a : Act} {w : World}
theorem mapC_us : ∀ {l : MapL} {us : List Value}, CL E w (mapC l) us → us = mapV l
  | [], us, h => by unfold mapC CL at h; rw [h]; rfl
  | (x, y, v) :: l, us, h => by
    unfold mapC at h
    unfold CL at h
    obtain ⟨u1, r1, rfl, e1, h⟩ := h
    unfold CL at h
    obtain ⟨u2, r2, rfl, e2, h⟩ := h
    unfold CL at h
    obtain ⟨u3, r3, rfl, e3, h⟩ := h
    rw [C_v e1, C_v e2, C_v e3, mapC_us h]
    rfl
theorem mapC_CL : ∀ {l : MapL}, (∀ p ∈ l, p.2.2.oneCell' = true) → CL E w (mapC l) (mapV l) ∧ ∀ x ∈ mapV l, x.oneCell' = true
  | [], _ => ⟨by unfold mapC CL mapV; rfl, fun x h => by cases h⟩
  | (x, y, v) :: l, h => by
    obtain ⟨h1, h2⟩ := mapC_CL (l := l) (fun p hp => h p (List.mem_cons_of_mem _ hp))
    have hv : v.oneCell' = true := h (x, y, v) (List.mem_cons_self ..)
    refine ⟨?_, fun z hz => ?_⟩
    · unfold mapC mapV
      unfold CL; refine ⟨_, _, rfl, C_v_mk rfl, ?_⟩
      unfold CL; refine ⟨_, _, rfl, C_v_mk rfl, ?_⟩
      unfold CL; exact ⟨_, _, rfl, C_v_mk hv, h1⟩
    · unfold mapV at hz
      rcases List.mem_cons.1 hz with rfl | hz
      · rfl
      · rcases List.mem_cons.1 hz with rfl | hz
        · rfl
        · rcases List.mem_cons.1 hz with rfl | hz
          · exact hv
          · exact h2 z hz
theorem key_us {x y : Int} {u : Value} (h : C E w (.agg [.r (.v (.int .i64 x)), .r (.v (.int .i64 y))]) u) : u = .agg #[.int .i64 x, .int .i64 y] := by
  unfold C at h
  obtain ⟨us, rfl, h, _⟩ := h
  unfold CL at h
  obtain ⟨u1, r1, rfl, e1, h⟩ := h
  unfold CL at h
  obtain ⟨u2, r2, rfl, e2, h⟩ := h
  unfold CL at h
  rw [h, C_v e1, C_v e2]
theorem upd_one {x y : Int} {v : Value} (hv : v.oneCell' = true) : ∀ {l : MapL}, (∀ p ∈ l, p.2.2.oneCell' = true) → ∀ p ∈ updM x y v l, p.2.2.oneCell' = true
  | [], _, p, hp => by unfold updM at hp; rw [List.mem_singleton.1 hp]; exact hv
  | (c, d, z) :: l, h, p, hp => by
    unfold updM at hp
    split at hp
    · rcases List.mem_cons.1 hp with rfl | hp
      · exact hv
      · exact h p (List.mem_cons_of_mem _ hp)
    · rcases List.mem_cons.1 hp with rfl | hp
      · exact h _ (List.mem_cons_self ..)
      · exact upd_one hv (fun p hp => h p (List.mem_cons_of_mem _ hp)) p hp
theorem us_one {l : MapL} (h : ∀ x ∈ mapV l, x.oneCell' = true) : ∀ p ∈ l, p.2.2.oneCell' = true := by
  induction l with
  | nil => intro p hp; cases hp
  | cons e l ih =>
    obtain ⟨x, y, v⟩ := e
    intro p hp
    unfold mapV at h
    rcases List.mem_cons.1 hp with rfl | hp
    · exact h v (by simp)
    · exact ih (fun z hz => h z (by simp [hz])) p hp
/-- A map that is looked into; ok: with the word whether the key is there. -/
theorem r_lookup {t kt et : TypeId} {x z : Operand} {j : Nat} {l : MapL} {p r : Int} {ok : Bool} {v : AV} {zv : Value} (hi : ops[i]? = some o) (hop : o.op = .lookup t x z ok) (hd : o.dst = some d) (hn : Nat.blt d c.n = true) (hg : gOk ops F o.guard = some true)
    (hx : ev F x = some (.box j 4294967295)) (hz : ev F z = some (.agg [.r (.v (.int .i64 p)), .r (.v (.int .i64 r))])) (hH : H[j]? = some (some (4294967295, mapC l))) (hm : c.P.underlying t = some (.map kt et)) (hk : flatK c.P kt = some [some .i64, some .i64]) (hzr : (c.P.info? et).bind (fun i => i.zero) = some zv)
    (hv : v = if ok then .tup [.r (.v (((lookM p r l).map (·.2)).getD zv)), .r (.v (.bool (lookM p r l).isSome))] else .r (.v (((lookM p r l).map (·.2)).getD zv))) (hone : zv.oneCell' = true)
    (h : GR c ops kz q none sch ((d, v) :: F) H S) : GR c ops kz q none ((i, .l) :: sch) F H S := by
  intro E a w h1 h2 h3 h4 h5
  obtain ⟨b, us, k1, k2, k3, k4⟩ := h4.box j _ _ hH
  have hxv := h3.ev hx
  unfold C at hxv
  obtain ⟨b', hb', hu⟩ := hxv
  rw [k1] at hb'; cases hb'
  have hu' : a.eval x = .map (some b) := hu
  have hkv := key_us (h3.ev hz)
  have hus := mapC_us k3
  subst hus
  have ho1 := us_one k4
  have hv1 : (((lookM p r l).map (·.2)).getD zv).oneCell' = true := by
    cases hl : lookM p r l with
    | none => exact hone
    | some e =>
      have : ∀ (l : MapL) (e : Nat × Value), lookM p r l = some e → (∀ p ∈ l, p.2.2.oneCell' = true) → e.2.oneCell' = true := by
        intro l
        induction l with
        | nil => intro e h; cases h
        | cons g l ih =>
          obtain ⟨g1, g2, g3⟩ := g
          intro e h ho
          unfold lookM at h
          split at h
          · cases h; exact ho _ (List.mem_cons_self ..)
          · cases hl : lookM p r l with
            | none => rw [hl] at h; cases h
            | some e' =>
              rw [hl] at h
              cases h
              exact ih e' hl (fun p hp => ho p (List.mem_cons_of_mem _ hp))
      exact this l e hl ho1
  obtain ⟨ti, hti, hz0⟩ := Option.bind_eq_some_iff.1 hzr
  have hrun := run_lookup (w := w) hm hk (run_zero_ hti hz0 w) E k2 p r ok
  refine seq_value hi (gOk_ok (o := o) h3 hg) (w' := w) (u := if ok then .tuple #[((lookM p r l).map (·.2)).getD zv, .bool (lookM p r l).isSome] else ((lookM p r l).map (·.2)).getD zv) (by unfold execOp; simp only [hop, hu', hkv, Sem.run_bind, hrun, Result.andThen_ok, Sem.run_pure]) (.inr rfl) ?_
  rw [hd]
  refine h E _ w ?_ ?_ (h3.put ?_ (by rw [h1]; exact hn)) h4 (fun s hs => by cases hs)
  · rw [(put_size _ _ _).1]; exact h1
  · rw [(put_size _ _ _).2]; exact h2
  · rw [hv]
    cases ok with
    | true =>
      simp only [if_true]
      unfold C
      refine ⟨_, rfl, ?_⟩
      unfold CL; refine ⟨_, _, rfl, C_v_mk hv1, ?_⟩
      unfold CL; refine ⟨_, _, rfl, C_v_mk rfl, ?_⟩
      unfold CL; rfl
    | false => simp only [Bool.false_eq_true, if_false]; exact C_v_mk hv1
/-- A map's entry is written: mapUpdate, and insert. -/
theorem r_mapUpd {t kt et : TypeId} {x z u : Operand} {j : Nat} {l : MapL} {p r : Int} {v : Value} (hi : ops[i]? = some o) (hop : o.op = .mapUpdate t x z u ∨ o.op = .insert t x z u) (hd : o.dst = none) (hg : gOk ops F o.guard = some true)
    (hx : ev F x = some (.box j 4294967295)) (hz : ev F z = some (.agg [.r (.v (.int .i64 p)), .r (.v (.int .i64 r))])) (hu : ev F u = some (.r (.v v))) (hH : H[j]? = some (some (4294967295, mapC l))) (hm : c.P.underlying t = some (.map kt et)) (hk : flatK c.P kt = some [some .i64, some .i64])
    (h : GR c ops kz q none sch F (H.set j (some (4294967295, mapC (updM p r v l)))) S) : GR c ops kz q none ((i, .l) :: sch) F H S := by
  intro E a w h1 h2 h3 h4 h5
  obtain ⟨b, us, k1, k2, k3, k4⟩ := h4.box j _ _ hH
  have hxv := h3.ev hx
  unfold C at hxv
  obtain ⟨b', hb', hxu⟩ := hxv
  rw [k1] at hb'; cases hb'
  have hx' : a.eval x = .map (some b) := hxu
  have hkv := key_us (h3.ev hz)
  have huv := C_v (h3.ev hu)
  have hv1 : v.oneCell' = true := by
    have q := h3.ev hu
    unfold C CR at q
    exact q.2
  have hus := mapC_us k3
  subst hus
  have hrun := run_update (w := w) hm hk E k2 p r v
  obtain ⟨c1, c2⟩ := mapC_CL (E := E) (w := { w with heap := w.heap.setIfInBounds b (objOf 4294967295 (mapV (updM p r v l))) }) (upd_one (x := p) (y := r) hv1 (us_one k4))
  obtain ⟨c1', _⟩ := mapC_CL (E := E) (w := w) (upd_one (x := p) (y := r) hv1 (us_one k4))
  have hbl : b < w.heap.size := (Array.getElem?_eq_some_iff.1 k2).1
  have hoth : ∀ k, k ≠ b → (w.heap.setIfInBounds b (objOf 4294967295 (mapV (updM p r v l))))[k]? = w.heap[k]? := fun k hk => by rw [Array.getElem?_setIfInBounds_ne (Ne.symm hk)]
  have hsat := h4.upd (w' := { w with heap := w.heap.setIfInBounds b (objOf 4294967295 (mapV (updM p r v l))) }) hH k1 ⟨by simp, fun k _ hk => hoth k hk, rfl, rfl, rfl, Nat.le_refl _⟩ (by rw [Array.getElem?_setIfInBounds_self_of_lt hbl]) c1' c2
  refine seq_skip hi (gOk_ok (o := o) h3 hg) (w' := { w with heap := w.heap.setIfInBounds b (objOf 4294967295 (mapV (updM p r v l))) }) ?_ (.inr rfl) ?_
  · unfold execOp
    rcases hop with hop | hop <;> simp only [hop, hx', hkv, huv, Sem.run_bind, hrun, Result.andThen_ok, Sem.run_pure]
  · rw [hd]
    exact h E a _ h1 h2 (h3.mono h4.YZ (Env.le_refl E) (fun b' hb => hoth b' (fun e => (h4.bB k1).2.2 (e ▸ hb)))) hsat (fun s hs => by cases hs)
/-- A map is made. -/
theorem r_makeMap {t : TypeId} (hi : ops[i]? = some o) (hop : o.op = .makeMap t none) (hd : o.dst = some d) (hn : Nat.blt d c.n = true) (hg : gOk ops F o.guard = some true)
    (h : GR c ops kz q none sch ((d, .box H.length 4294967295) :: F) (H ++ [some (4294967295, mapC [])]) S) : GR c ops kz q none ((i, .l) :: sch) F H S := by
  refine gr_grow hi hd hn hg rfl (fun E a w h3 h4 => ?_) (fun s hs => by cases hs) (fun s hs => by cases hs) h
  have hnw := h4.new (t := 4294967295) (cs := []) (us := []) (by unfold CL; rfl) (fun x hx => by cases hx)
  have hs := stays_push w (objOf 4294967295 [])
  refine ⟨E.withB w.heap.size, _, .map (some w.heap.size), ?_, ?_, h3.mono h4.YZ (le_B E _) (fun b hb => hs.blk (h4.Z b hb)), hnw, ?_⟩
  · unfold execOp
    have hr : (Instr.makeMap t none).run c.P w = .ok (.map (some w.heap.size)) { w with heap := w.heap.push (objOf 4294967295 []) } := rfl
    simp only [hop, Option.map_none, Sem.run_bind, hr, Result.andThen_ok, Sem.run_pure]
  · unfold C
    exact ⟨w.heap.size, by simp [← h4.lB], rfl⟩
  · intro s inv hn1 _
    refine inv.grow hs.size (fun b hb => hs.blk hb) (fun i b hi hb => ?_) (fun _ _ _ _ hv => hv) (fun _ hz => hz) (fun b x hlt hx => by
      have hx' : (if b = w.heap.size then some (Sum.inl E.B.length) else E.O b) = some x := hx
      rwa [if_neg (Nat.ne_of_lt hlt)] at hx')
    have hl : i < E.B.length := by rw [h4.lB]; omega
    have hb' : (E.B ++ [w.heap.size])[i]? = some b := hb
    rwa [List.getElem?_append_left hl] at hb'
end
end Go.Proofs.Ytmocggibcniggaa.Kw
namespace Go.Proofs.Ytmocggibcniggaa.Kw
open Go
/-! ## a struct of numbers, and of such structs, beside itself -/
def selfOk (P : Program) : Nat → TypeId → Nat → Bool
  | 0, _, _ => false
  | n + 1, t, len => match P.underlying t with
    | some (.int _) => true
    | some (.struct fs) => !(P.stoodInHeld t) && fs.toList.all (fun f => f.name != "_" && (match P.info? f.type, P.underlying f.type with
      | some i, some d => (match isAggD d with
        | true => Nat.ble (f.offset + i.size) len && selfOk P n f.type i.size
        | false => Nat.blt f.offset len && selfOk P n f.type 1)
      | _, _ => false))
    | _ => false
def isI : Value → Prop := fun x => ∃ k a, x = .int k a
def FitU (P : Program) (t : TypeId) (len : Nat) (u : Value) : Prop :=
  (∀ k, P.underlying t = some (.int k) → isI u) ∧ (∀ fs, P.underlying t = some (.struct fs) → ∃ us : Array Value, u = .agg us ∧ us.size = len ∧ ∀ x ∈ us.toList, isI x)
section
variable {P : Program}
end
section
variable {c : Ctx} {ops : Array Oper} {k : List Item} {kz : Kz} {q st : Option St} {i : Nat} {m : Md} {sch : List (Nat × Md)} {F : Fr} {H : Hp} {S : Sp} {o : Oper} {d : Nat} {E : Env} {w : World}
def allI : List AV → Bool
  | [] => true
  | .r (.v (.int _ _)) :: r => allI r
  | _ => false
def selfT (P : Program) (t : TypeId) (len : Nat) : Bool := selfOk P 10 t len && !(P.eqGuardType P.depth t) && match P.underlying t with
  | some (.struct _) => true
  | _ => false
end
end Go.Proofs.Ytmocggibcniggaa.Kw
/-! ### what is read is frozen while a callee runs -/
namespace Go.Proofs.Ytmocggibcniggaa.Kw
open Go
mutual
def upR : RV → RV
  | .rs sz L => .fs sz (upLL L)
  | .fs sz L => .fs sz (upLL L)
  | .v x => .v x
  | .ro cs => .ro cs
  | .os e sz L => .os e sz L
  | .any => .any
def upL : List RV → List RV
  | [] => []
  | c :: cs => upR c :: upL cs
def upLL : List (List RV) → List (List RV)
  | [] => []
  | r :: L => upL r :: upLL L
end
theorem upL_length : ∀ (l : List RV), (upL l).length = l.length
  | [] => by unfold upL; rfl
  | _ :: l => by unfold upL; simp [upL_length l]
theorem upLL_length : ∀ (l : List (List RV)), (upLL l).length = l.length
  | [] => by unfold upLL; rfl
  | _ :: l => by unfold upLL; simp [upLL_length l]
section
variable {Y Z : Nat → Prop} {w : World}
mutual
theorem CR_up (hyz : ∀ b, Y b → Z b) : ∀ (x : RV) (u : Value), CR Y Z w x u → CR Z Z w (upR x) u
  | .v _, _, h => by unfold upR; unfold CR at h ⊢; exact h
  | .ro cs, _, h => by unfold upR; exact CR_mono hyz (fun _ h => h) hyz (fun _ _ => rfl) _ _ h
  | .rs sz L, _, h => by
    unfold upR
    unfold CR at h ⊢
    obtain ⟨A, c, rfl, h1, h2, h3⟩ := h
    refine ⟨A, c, by rw [upLL_length], by rw [upLL_length]; exact h1, h2, ?_⟩
    rcases h3 with rfl | ⟨b, o, h3, hb, hc⟩
    · exact .inl (by unfold upLL; rfl)
    · exact .inr ⟨b, o, h3, hb, CRows_up hyz sz L b o hc⟩
  | .fs sz L, _, h => by
    unfold upR
    unfold CR at h ⊢
    obtain ⟨A, c, rfl, h1, h2, h3⟩ := h
    refine ⟨A, c, by rw [upLL_length], by rw [upLL_length]; exact h1, h2, ?_⟩
    rcases h3 with rfl | ⟨b, o, h3, hb, hc⟩
    · exact .inl (by unfold upLL; rfl)
    · exact .inr ⟨b, o, h3, hyz b hb, CRows_up hyz sz L b o hc⟩
  | .os _ _ _, _, h => by unfold CR at h; exact h.elim
  | .any, _, h => by unfold upR; unfold CR at h ⊢; exact h
theorem CAt_up (hyz : ∀ b, Y b → Z b) : ∀ (cs : List RV) (b o : Nat), CAt Y Z w cs b o → CAt Z Z w (upL cs) b o
  | [], _, _, _ => by unfold upL CAt; trivial
  | c :: cs, b, o, h => by
    unfold upL
    unfold CAt at h ⊢
    obtain ⟨⟨u, h1, h2⟩, h3⟩ := h
    exact ⟨⟨u, h1, CR_up hyz c u h2⟩, CAt_up hyz cs b (o + 1) h3⟩
theorem CRows_up (hyz : ∀ b, Y b → Z b) (sz : Nat) : ∀ (L : List (List RV)) (b o : Nat), CRows Y Z w sz L b o → CRows Z Z w sz (upLL L) b o
  | [], _, _, _ => by unfold upLL CRows; trivial
  | cs :: L, b, o, h => by
    unfold upLL
    unfold CRows at h ⊢
    exact ⟨by rw [upL_length]; exact h.1, CAt_up hyz cs b o h.2.1, CRows_up hyz sz L b (o + sz) h.2.2⟩
end
end
mutual
def upA : AV → AV
  | .r x => .r (upR x)
  | .agg cs => .agg (upAL cs)
  | .tup cs => .tup (upAL cs)
  | .fn f cs => .fn f (upAL cs)
  | .box i o => .box i o
  | .sl k => .sl k
  | .el k sz i o => .el k sz i o
  | .ss k sz i n => .ss k sz i n
  | .cap k => .cap k
  | .capLe k N => .capLe k N
  | .capGt k N => .capGt k N
  | .junk => .junk
def upAL : List AV → List AV
  | [] => []
  | c :: cs => upA c :: upAL cs
end
section
variable {E : Env} {w : World}
mutual
theorem C_up (hyz : ∀ b, E.Y b → E.Z b) : ∀ (x : AV) (u : Value), C E w x u → C { E with Y := E.Z } w (upA x) u
  | .r x, u, h => by unfold upA; unfold C at h ⊢; exact CR_up hyz x u h
  | .box i off, u, h => by unfold upA; unfold C at h ⊢; exact h
  | .sl k, u, h => by unfold upA; unfold C at h ⊢; exact h
  | .el k sz i off, u, h => by unfold upA; unfold C at h ⊢; exact h
  | .ss k sz i n, u, h => by unfold upA; unfold C at h ⊢; exact h
  | .cap k, u, h => by unfold upA; unfold C at h ⊢; exact h
  | .capLe k N, u, h => by unfold upA; unfold C at h ⊢; exact h
  | .capGt k N, u, h => by unfold upA; unfold C at h ⊢; exact h
  | .agg cs, u, h => by unfold upA; unfold C at h ⊢; obtain ⟨us, h1, h2, h3⟩ := h; exact ⟨us, h1, CL_up hyz cs us h2, h3⟩
  | .tup cs, u, h => by unfold upA; unfold C at h ⊢; obtain ⟨us, h1, h2⟩ := h; exact ⟨us, h1, CL_up hyz cs us h2⟩
  | .fn f cs, u, h => by unfold upA; unfold C at h ⊢; obtain ⟨us, h1, h2⟩ := h; exact ⟨us, h1, CL_up hyz cs us h2⟩
  | .junk, u, h => by unfold upA; unfold C; trivial
theorem CL_up (hyz : ∀ b, E.Y b → E.Z b) : ∀ (xs : List AV) (us : List Value), CL E w xs us → CL { E with Y := E.Z } w (upAL xs) us
  | [], us, h => by unfold upAL; unfold CL at h ⊢; exact h
  | c :: cs, us, h => by
    unfold upAL
    unfold CL at h ⊢
    obtain ⟨u, r, h1, h2, h3⟩ := h
    exact ⟨u, r, h1, C_up hyz c u h2, CL_up hyz cs r h3⟩
end
end
mutual
theorem shA_zero : ∀ (x : AV), shA 0 x = x
  | .sl k => by unfold shA; rw [Nat.zero_add]
  | .agg cs => by unfold shA; rw [shL_zero]
  | .tup cs => by unfold shA; rw [shL_zero]
  | .r _ => rfl
  | .box _ _ => rfl
  | .el _ _ _ _ => rfl
  | .ss _ _ _ _ => rfl
  | .cap _ => rfl
  | .capLe _ _ => rfl
  | .capGt _ _ => rfl
  | .fn _ _ => rfl
  | .junk => rfl
theorem shL_zero : ∀ (xs : List AV), shL 0 xs = xs
  | [] => by unfold shL; rfl
  | x :: xs => by unfold shL; rw [shA_zero, shL_zero]
end
/-- A contract over frozen lists serves for lists that are read, where the answer is plain. -/
theorem FnR.up {P : Program} {g : FuncId} {args : List AV} {Post : AV → Sp → Prop} (h : FnR P g (upAL args) Post) (hp : ∀ r S, Post r S → plainA r = true ∧ PlainS S) : FnR P g args Post := by
  intro w Xp E us hs hc
  have hyz := hs.YZ
  have hsat : Sat w ⟨Xp, E.Z, E.Z, 0, fun i => E.B[i]?, 0, fun _ => none⟩ { E with Y := E.Z } [] [] w := { hs with
    box := fun i t cs h => by simp at h
    sl := fun k e h => by simp at h
    YZ := fun b h => h
    yin := fun b h => .inl h
    yup := fun b h => h }
  refine (h w Xp { E with Y := E.Z } us hsat (CL_up hyz _ _ hc)).mono fun e w' hh => ?_
  obtain ⟨u, r, H1, S1, E1, rfl, ⟨rfl, hpost⟩, hc1, hs1, hnb⟩ := hh
  obtain ⟨hpl, hps⟩ := hp r S1 hpost
  refine ⟨u, r, [], S1, { E1 with Y := E.Y }, rfl, ⟨rfl, hpost⟩, ?_, ?_, hnb⟩
  · have := C_sh (E1 := E1) (E2 := { E1 with Y := E.Y }) (n := 0) (fun k v hk => by rw [Nat.zero_add]; exact hk) r u hpl hc1
    rwa [shA_zero] at this
  · exact { hs1 with
      box := fun i t cs h => by simp at h
      sl := fun k e hk => by
        obtain ⟨v, fp, k1, k2, k3⟩ := hs1.sl k e hk
        obtain ⟨p1, p2⟩ := hps _ (List.mem_of_getElem? hk) e rfl
        exact ⟨v, fp, k1, k2, OwnE_plain p1 p2 k3⟩
      YZ := fun b hb => hs1.zup b (hyz b hb)
      yin := fun b h => .inl h
      yup := fun b h => h }
/-! ### a slice that lies in a row of an own slice: it is taken out, it is laid in -/
section
variable {Y Z : Nat → Prop} {w : World}
theorem ORL_cell : ∀ {xs : List RV} {us : List Value} {fp : List Nat}, ORL Y Z w xs us fp → ∀ {i : Nat} {x : RV}, xs[i]? = some x →
    ∃ u f1 f2 f3, us[i]? = some u ∧ fp = f1 ++ f2 ++ f3 ∧ OR Y Z w x u f2 ∧ ∀ (y : RV) (v : Value) (g : List Nat), OR Y Z w y v g → ORL Y Z w (xs.set i y) (us.set i v) (f1 ++ g ++ f3)
  | [], us, fp, h, i, x, hx => by simp at hx
  | c :: cs, us, fp, h, i, x, hx => by
    unfold ORL at h
    obtain ⟨u, r, f, g, rfl, h2, h3, rfl⟩ := h
    cases i with
    | zero =>
      simp at hx; subst hx
      refine ⟨u, [], f, g, by simp, by simp, h2, fun y v g' hy => ?_⟩
      simp only [List.set_cons_zero, List.nil_append]
      unfold ORL
      exact ⟨v, r, g', g, rfl, hy, h3, rfl⟩
    | succ i =>
      simp at hx
      obtain ⟨v, f1, f2, f3, h4, h5, h6, h7⟩ := ORL_cell h3 hx
      refine ⟨v, f ++ f1, f2, f3, by simpa using h4, by rw [h5]; simp, h6, fun y v' g' hy => ?_⟩
      simp only [List.set_cons_succ]
      unfold ORL
      exact ⟨u, _, f, _, rfl, h2, h7 y v' g' hy, by simp⟩
theorem set_app_left {α : Type} : ∀ {l m : List α} {i : Nat} {x : α}, i < l.length → (l ++ m).set i x = l.set i x ++ m
  | [], m, i, x, h => absurd h (Nat.not_lt_zero _)
  | y :: l, m, 0, x, _ => rfl
  | y :: l, m, i + 1, x, h => by
    have hl : i < l.length := by simpa using h
    show y :: ((l ++ m).set i x) = y :: (l.set i x ++ m)
    rw [set_app_left hl]
theorem set_app_right {α : Type} : ∀ {l m : List α} {i : Nat} {x : α}, (l ++ m).set (l.length + i) x = l ++ m.set i x
  | [], m, i, x => by simp
  | y :: l, m, i, x => by
    rw [show (y :: l).length + i = (l.length + i) + 1 from by simp; omega]
    show y :: ((l ++ m).set (l.length + i) x) = y :: (l ++ m.set i x)
    rw [set_app_right]
theorem ORows_cell {sz off : Nat} (hoff : off < sz) : ∀ {L : List (List RV)} {us : List Value} {fp : List Nat}, ORows Y Z w sz L us fp → ∀ {j : Nat} {row : List RV} {x : RV}, L[j]? = some row → row[off]? = some x →
    ∃ u f1 f2 f3, us[j * sz + off]? = some u ∧ fp = f1 ++ f2 ++ f3 ∧ OR Y Z w x u f2 ∧ ∀ (y : RV) (v : Value) (g : List Nat), OR Y Z w y v g → ORows Y Z w sz (L.set j (row.set off y)) (us.set (j * sz + off) v) (f1 ++ g ++ f3)
  | [], us, fp, h, j, row, x, hj, _ => by simp at hj
  | c :: L, us, fp, h, j, row, x, hj, hx => by
    unfold ORows at h
    obtain ⟨a, b, f, g, rfl, h2, h3, h4, rfl⟩ := h
    have hal : a.length = sz := (ORL_length h3).trans h2
    cases j with
    | zero =>
      simp at hj; subst hj
      obtain ⟨u, f1, f2, f3, k1, k2, k3, k4⟩ := ORL_cell h3 hx
      refine ⟨u, f1, f2, f3 ++ g, ?_, by rw [k2]; simp, k3, fun y v g' hy => ?_⟩
      · rw [Nat.zero_mul, Nat.zero_add]; exact get_left k1
      · rw [Nat.zero_mul, Nat.zero_add, List.set_cons_zero, set_app_left (by omega)]
        unfold ORows
        exact ⟨_, b, f1 ++ g' ++ f3, g, rfl, by rw [List.length_set]; exact h2, k4 y v g' hy, h4, by simp⟩
    | succ j =>
      simp at hj
      obtain ⟨u, f1, f2, f3, k1, k2, k3, k4⟩ := ORows_cell hoff h4 hj hx
      refine ⟨u, f ++ f1, f2, f3, ?_, by rw [k2]; simp, k3, fun y v g' hy => ?_⟩
      · rw [show (j + 1) * sz + off = a.length + (j * sz + off) from by rw [hal, Nat.add_mul]; omega]; exact get_app.trans k1
      · rw [List.set_cons_succ, show (j + 1) * sz + off = a.length + (j * sz + off) from by rw [hal, Nat.add_mul]; omega, set_app_right]
        unfold ORows
        exact ⟨a, _, f, _, rfl, h2, h3, k4 y v g' hy, by simp⟩
end
section
variable {c : Ctx} {ops : Array Oper} {k : List Item} {kz : Kz} {q st : Option St} {i : Nat} {m : Md} {sch : List (Nat × Md)} {F : Fr} {H : Hp} {S : Sp} {o : Oper} {d : Nat} {r : AV} {E E' : Env} {a : Act} {w w' w0 : World} {P : Program} {X : Org}
theorem OwnE_rows {Y Z : Nat → Prop} {e : SE} {v : Value} {fp : List Nat} (h : OwnE Y Z w e v fp) : ∃ cs f, w.ownsRow 0 e.e e.sz v e.L.length cs ∧ ORows Y Z w e.sz e.L cs f ∧ fp = v.ownBlock.toList ++ f := by
  obtain ⟨cs, f, h1, h2, h3⟩ := h
  unfold RowsE at h2
  cases hn : e.ns with
  | false => rw [hn] at h2; obtain ⟨h4, rfl⟩ := h2; exact ⟨cs, [], h1, ORows_of_Rows h4, h3⟩
  | true => rw [hn] at h2; exact ⟨cs, f, h1, h2, h3⟩
theorem Sat.take (h : Sat w0 X E H S w) {kn j off : Nat} {se : SE} {row : List RV} {e2 : TypeId} {sz2 : Nat} {L2 : List (List RV)} (hS : S[kn]? = some (some se)) (hoff : off < se.sz) (hr : se.L[j]? = some row) (hx : row[off]? = some (.os e2 sz2 L2)) :
    ∃ (E' : Env) (u : Value), E.le E' ∧ E'.Y = E.Y ∧ E'.Z = E.Z ∧ E'.V[S.length]? = some u ∧ u.oneCell' = true ∧ Sat w0 X E' H (S.set kn (some ⟨se.e, se.sz, se.L.set j (row.set off .any), true⟩) ++ [some ⟨e2, sz2, L2, false⟩]) w ∧
      ∀ (b n cap : Nat), E.V[kn]? = some (.slice (some ⟨b, 0, none⟩) n cap) → ∀ w' : World, w'.heap[b]? = w.heap[b]? → w'.cell? ⟨b, j * se.sz + off, none⟩ = some u := by
  obtain ⟨v, fp, k1, kp, k3⟩ := h.sl kn se hS
  obtain ⟨cs, f, m1, m2, rfl⟩ := OwnE_rows k3
  obtain ⟨u, f1, g, f3, n1, rfl, n3, n4⟩ := ORows_cell hoff m2 hr hx
  have hnd := h.PN kn se _ hS kp
  have hkl : kn < S.length := (List.getElem?_eq_some_iff.1 hS).1
  have hone : u.oneCell' = true := OR_one n3
  have hg : ∀ b ∈ g, E.O b = some (.inr kn) := fun b hb => h.oP kn se _ b hS kp (by simp [hb])
  have hnd1 : (v.ownBlock.toList ++ (f1 ++ [] ++ f3)).Nodup := hnd.sublist (List.Sublist.append (List.Sublist.refl _) (by simp))
  have hgn : ∀ b ∈ g, b ∉ v.ownBlock.toList ++ (f1 ++ [] ++ f3) := fun b hb hm => by
    simp only [List.append_assoc, List.nodup_append, List.mem_append, List.nil_append] at hnd hm
    obtain ⟨_, ⟨_, ⟨_, _, q1⟩, q2⟩, q3⟩ := hnd
    rcases hm with hm | hm | hm
    · exact q3 b hm b (.inr (.inl hb)) rfl
    · exact q2 b hm b (.inl hb) rfl
    · exact q1 b hb b hm rfl
  have hsub : ∀ b ∈ v.ownBlock.toList ++ (f1 ++ [] ++ f3), E.O b = some (.inr kn) := fun b hb => h.oP kn se _ b hS kp (by
    simp only [List.append_assoc, List.mem_append, List.nil_append] at hb ⊢
    rcases hb with hb | hb | hb
    · exact .inl hb
    · exact .inr (.inl hb)
    · exact .inr (.inr (.inr hb)))
  let E' : Env := { E with V := E.V ++ [u], P := E.P.set kn (v.ownBlock.toList ++ (f1 ++ [] ++ f3)) ++ [g], O := fun x => if x ∈ g then some (.inr S.length) else E.O x }
  have hle : E.le E' := ⟨fun _ _ h => h, fun i x h => get_left h, fun _ h => h, fun _ h => h⟩
  have nO : ∀ b x, E.O b = some x → x ≠ .inr kn → b ∉ g := fun b x hx hne hb => hne (by rw [hg b hb] at hx; cases hx; rfl)
  have hset : ∀ {l : Nat} {x : SE}, (S.set kn (some ⟨se.e, se.sz, se.L.set j (row.set off .any), true⟩) ++ [some ⟨e2, sz2, L2, false⟩])[l]? = some (some x) → (l = S.length ∧ x = ⟨e2, sz2, L2, false⟩) ∨ (l = kn ∧ x = ⟨se.e, se.sz, se.L.set j (row.set off .any), true⟩) ∨ (l ≠ kn ∧ l < S.length ∧ S[l]? = some (some x)) := by
    intro l x hl
    rcases get_snoc hl with hl | ⟨hl, he⟩
    · rcases get_set hl with ⟨e1, e3, _⟩ | ⟨e1, e3⟩
      · simp only [Option.some.injEq] at e3
        exact .inr (.inl ⟨e1.symm, e3⟩)
      · exact .inr (.inr ⟨fun e => e1 e.symm, (List.getElem?_eq_some_iff.1 e3).1, e3⟩)
    · simp only [Option.some.injEq] at he
      exact .inl ⟨by simpa using hl, he⟩
  have hP : ∀ l, (E.P.set kn (v.ownBlock.toList ++ (f1 ++ [] ++ f3)) ++ [g])[l]? = if l = S.length then some g else if l = kn then some (v.ownBlock.toList ++ (f1 ++ [] ++ f3)) else E.P[l]? := by
    intro l
    split
    · rename_i e; subst e
      rw [List.getElem?_append_right (by simp [h.lP])]
      simp [h.lP]
    · rename_i e
      rcases Nat.lt_or_ge l S.length with hl | hl
      · rw [List.getElem?_append_left (by simpa [h.lP] using hl)]
        split
        · rename_i e; subst e
          rw [List.getElem?_set_self (by rw [h.lP]; exact hl)]
        · rename_i e
          rw [List.getElem?_set_ne (fun e' => e e'.symm)]
      · rw [List.getElem?_eq_none (by simp [h.lP]; omega), if_neg (by omega), List.getElem?_eq_none (by rw [h.lP]; exact hl)]
  have hVn : (E.V ++ [u])[S.length]? = some u := by rw [← h.lV]; simp
  refine ⟨E', u, hle, rfl, rfl, hVn, hone, ?_, ?_⟩
  · refine h.step (Stays.refl w) (fun _ h => h.elim) h.YZ (fun _ h => h) (fun _ h => h) (fun _ h => .inl h) (fun _ h => .inl h) h.lB (by simp [E', h.lV]) (by simp [E', h.lP]) ?_ ?_ ?_ ?_ ?_ (fun _ _ h => h) ?_ (fun _ _ _ h => get_left h)
    · exact fun i t ds hi => h.box_stays (Stays.refl w) (fun _ h => h.elim) (fun _ _ k => C_ext h.YZ hle k) hi (fun _ _ h => h) rfl
    · intro l x hl
      show ∃ v' fp', (E.V ++ [u])[l]? = some v' ∧ (E.P.set kn (v.ownBlock.toList ++ (f1 ++ [] ++ f3)) ++ [g])[l]? = some fp' ∧ OwnE E.Y E.Z w x v' fp'
      rw [hP l]
      rcases hset hl with ⟨rfl, rfl⟩ | ⟨rfl, rfl⟩ | ⟨e1, e3, e4⟩
      · rw [if_pos rfl]
        obtain ⟨cs2, p1, p2, p3⟩ := n3
        exact ⟨u, g, hVn, rfl, (OwnE_flat rfl).2 ⟨cs2, p1, p2, p3⟩⟩
      · rw [if_neg (by omega), if_pos rfl]
        refine ⟨v, _, get_left k1, rfl, (OwnE_nest rfl).2 ⟨cs.set (j * se.sz + off) u, f1 ++ [] ++ f3, ?_, n4 .any u [] ⟨by unfold CR; exact hone, rfl⟩, rfl⟩⟩
        rw [set_same n1]
        simpa using m1
      · rw [if_neg (by omega), if_neg e1]
        obtain ⟨v', fp', p1, p2, p3⟩ := h.sl l x e4
        exact ⟨v', fp', get_left p1, p2, p3⟩
    · intro i b hi
      show (if b ∈ g then _ else _) = _
      have := h.oB i b hi
      rw [if_neg (nO b _ this (by simp))]; exact this
    · intro l x fp' b hl hp hb
      have hp' := hP l
      rw [show (E.P.set kn (v.ownBlock.toList ++ (f1 ++ [] ++ f3)) ++ [g])[l]? = some fp' from hp] at hp'
      show (if b ∈ g then _ else _) = _
      rcases hset hl with ⟨rfl, rfl⟩ | ⟨rfl, rfl⟩ | ⟨e1, e3, e4⟩
      · rw [if_pos rfl] at hp'
        cases hp'
        rw [if_pos hb]
      · rw [if_neg (by omega), if_pos rfl] at hp'
        cases hp'
        rw [if_neg (fun hm => hgn b hm hb)]
        exact hsub b hb
      · rw [if_neg (by omega), if_neg e1] at hp'
        have := h.oP l x fp' b e4 hp'.symm hb
        rw [if_neg (nO b _ this (by simpa using e1))]; exact this
    · intro l x fp' hl hp
      have hp' := hP l
      rw [show (E.P.set kn (v.ownBlock.toList ++ (f1 ++ [] ++ f3)) ++ [g])[l]? = some fp' from hp] at hp'
      rcases hset hl with ⟨rfl, rfl⟩ | ⟨rfl, rfl⟩ | ⟨e1, e3, e4⟩
      · rw [if_pos rfl] at hp'
        cases hp'
        obtain ⟨_, _, _, p3⟩ := n3
        rw [p3]; exact ob_nodup u
      · rw [if_neg (by omega), if_pos rfl] at hp'
        cases hp'
        exact hnd1
      · rw [if_neg (by omega), if_neg e1] at hp'
        exact h.PN l x fp' e4 hp'.symm
    · intro b x hb
      refine ⟨.inl ?_, fun h => h⟩
      have hb' : (if b ∈ g then some (.inr S.length) else E.O b) = some x := hb
      split at hb'
      · rename_i hm; rw [hg b hm]; simp
      · rw [hb']; simp
  · intro b n cap hv w' hw'
    rw [k1] at hv
    cases hv
    rw [World.cell?_of_block (w := w) (w' := w') (a := ⟨b, j * se.sz + off, none⟩) hw']
    rcases own_cells m1 with ⟨h6, _⟩ | ⟨b', cap', hvb, _, _, _, h9⟩
    · cases h6
    · cases hvb
      exact h9 _ u n1
/-- A slice is loaded out of a row of an own slice: it is one of the call's own as long as it is out. -/
theorem r_takeS {t : TypeId} {y : Ty} {x : Operand} {kn sz j off : Nat} {se : SE} {row : List RV} {e2 : TypeId} {sz2 : Nat} {L2 : List (List RV)} (hT : TabOk c.P c.T) (hi : ops[i]? = some o) (hop : o.op = .load t x) (hd : o.dst = some d) (hn : Nat.blt d c.n = true) (hg : gOk ops F o.guard = some true)
    (hx : ev F x = some (.el kn sz j off)) (hS : S[kn]? = some (some se)) (hsz : se.sz = sz) (hr : se.L[j]? = some row) (hc : row[off]? = some (.os e2 sz2 L2)) (hoff : Nat.blt off sz = true) (hy : c.T.get t = some y) (hag : y.agg = false)
    (h : GR c ops kz q none sch ((d, .sl S.length) :: F) H (S.set kn (some ⟨se.e, se.sz, se.L.set j (row.set off .any), true⟩) ++ [some ⟨e2, sz2, L2, false⟩])) : GR c ops kz q st ((i, .l) :: sch) F H S := by
  intro E a w h1 h2 h3 h4 h5
  subst hsz
  obtain ⟨E', u, e1, eY, eZ, e3, e4, e5, e6⟩ := h4.take hS (Nat.le_of_ble_eq_true hoff) hr hc
  have hp := h3.ev hx
  unfold C at hp
  obtain ⟨b, n, cap, hub, hpv⟩ := hp
  have hcell := e6 b n cap hub w rfl
  have hrun := run_loadVar (P := c.P) (w := w) (hT t y hy) (b := b) (o := j * se.sz + off) (us := [u]) (u := u) (fun jj v hj => by
    cases jj with
    | zero => simp at hj; subst hj; exact hcell
    | succ jj => simp at hj) (by rw [hag]; rfl)
  refine seq_value hi (gOk_ok (o := o) h3 hg) (u := u) (w' := w) (by
    unfold execOp
    simp only [hop, hpv, Instr.loadAt, Instr.sureAddr, pure_bind, Sem.run_bind, hrun, Result.andThen_ok, Sem.run_pure]) (.inr rfl) ?_
  rw [hd]
  refine h E' _ w ?_ ?_ ((h3.mono h4.YZ e1 (fun _ _ => rfl)).put ?_ (by rw [h1]; exact hn)) e5 (fun s hs => by cases hs)
  · rw [(put_size _ _ _).1]; exact h1
  · rw [(put_size _ _ _).2]; exact h2
  · unfold C; exact ⟨e3, e4⟩
/-- An own slice is laid into a row of another one. -/
theorem r_giveS {t : TypeId} {y : Ty} {x z : Operand} {kn km sz j off : Nat} {se sm : SE} {row : List RV} (hT : TabOk c.P c.T) (hi : ops[i]? = some o) (hop : o.op = .store t x z) (hd : o.dst = none) (hg : gOk ops F o.guard = some true)
    (hx : ev F x = some (.el kn sz j off)) (hz : ev F z = some (.sl km)) (hS : S[kn]? = some (some se)) (hm : S[km]? = some (some sm)) (hns : sm.ns = false) (hne : Nat.beq kn km = false) (hsz : se.sz = sz) (hy : c.T.get t = some y) (hl : Nat.beq 1 y.size = true) (hoff : Nat.blt off sz = true) (hr : se.L[j]? = some row) (hrl : Nat.blt off row.length = true)
    (h : GR c ops kz q none sch F H ((S.set kn (some ⟨se.e, se.sz, se.L.set j (row.set off (.os sm.e sm.sz sm.L)), true⟩)).set km none)) : GR c ops kz q st ((i, .l) :: sch) F H S := by
  intro E a w h1 h2 h3 h4 h5
  subst hsz
  have hkm : kn ≠ km := fun e => by subst e; simp [Nat.beq_refl] at hne
  have hl1 : 1 = y.size := Nat.eq_of_beq_eq_true hl
  have hoff' : off < se.sz := Nat.le_of_ble_eq_true hoff
  obtain ⟨v, fp, k1, kp, k3⟩ := h4.sl kn se hS
  obtain ⟨um, fm, n1, np, n3⟩ := h4.sl km sm hm
  obtain ⟨cm, q1, q2, q3⟩ := (OwnE_flat hns).1 n3
  obtain ⟨cs, f, k2, k4, rfl⟩ := OwnE_rows k3
  have hum := h3.ev hz
  unfold C at hum
  obtain ⟨hum, hone⟩ := hum
  rw [n1] at hum
  simp only [Option.some.injEq] at hum
  have hp := h3.ev hx
  unfold C at hp
  obtain ⟨b, n, cap, hub, hpv⟩ := hp
  rw [k1] at hub
  cases hub
  have hjl := (List.getElem?_eq_some_iff.1 hr).1
  have hrow : ∃ xo, row[off]? = some xo := ⟨_, List.getElem?_eq_getElem (Nat.le_of_ble_eq_true hrl)⟩
  obtain ⟨xo, hxo⟩ := hrow
  obtain ⟨uo, f1, g0, f3, o1, rfl, o3, o4⟩ := ORows_cell hoff' k4 hr hxo
  have hndf := h4.PN kn se _ hS kp
  have hndm := h4.PN km sm fm hm np
  have hor : OR E.Y E.Z w (.os sm.e sm.sz sm.L) um fm := ⟨cm, q1, q2, q3⟩
  have hrows := o4 _ um fm hor
  obtain ⟨hxl, hc⟩ := k2
  rcases hc with ⟨hc, _⟩ | ⟨g, cp, cur, hc, h0, hh, hn1, hn2, hcs, hct⟩
  · cases hc
  · cases hc
    have hbfp : b ∈ (Value.ownBlock (.slice (some ⟨b, 0, none⟩) se.L.length cap)).toList ++ (f1 ++ g0 ++ f3) := by simp [Value.ownBlock]
    have hbf : b ∉ f1 ++ g0 ++ f3 := fun hbf => (List.nodup_append.1 hndf).2.2 b (by simp [Value.ownBlock]) b hbf rfl
    have hbm : b ∉ fm := fun hb => hkm (h4.PP hS hm kp np hbfp hb)
    have hroom : j * se.sz + off + y.size ≤ cur.toList.length := by
      rw [Array.length_toList, hcs, ← hl1]
      have : (j + 1) * se.sz ≤ cap * se.sz := Nat.mul_le_mul_right _ (by omega)
      rw [Nat.add_mul] at this
      omega
    have hcells : um.cells = List.toArray [um] := by
      have : um.oneCell' = true := own_one' q1
      rcases q1.2 with ⟨rfl, _⟩ | ⟨g, cap, cur, rfl, _⟩ <;> rfl
    obtain ⟨w', m1, m2, m3, m4, m5, m6, m7⟩ := run_storeVar (hT t y hy) (b := b) (o := j * se.sz + off) (us := cur.toList) (by simpa using hh) hcells hl1 (fun z hz => by rw [List.mem_singleton.1 hz]; exact own_one' q1) hroom
    have hc1 : Chg w w' (fun x => x = b) := ⟨by omega, fun kk _ hne => m3 kk hne, m5, m6, m7, run_drawn _ _ _ _ m1⟩
    have hc' : Chg w w' (fun x => x ∈ (Value.ownBlock (.slice (some ⟨b, 0, none⟩) se.L.length cap)).toList ++ (f1 ++ g0 ++ f3)) := hc1.mono (fun x hx => by rw [hx]; exact hbfp)
    have hD : ∀ x, x ∈ (Value.ownBlock (.slice (some ⟨b, 0, none⟩) se.L.length cap)).toList ++ (f1 ++ g0 ++ f3) → E.O x ≠ none := fun x hb => by rw [h4.oP kn se _ x hS kp hb]; simp
    have hzz := h4.zkeep hc' hD
    have hsub : ∀ x ∈ f1 ++ fm ++ f3, x ∈ f1 ++ g0 ++ f3 ∨ x ∈ fm := fun x hx => by
      simp only [List.append_assoc, List.mem_append] at hx ⊢
      rcases hx with hx | hx | hx
      · exact .inl (.inl hx)
      · exact .inr hx
      · exact .inl (.inr (.inr hx))
    have hff : ∀ x ∈ f1 ++ fm ++ f3, w'.heap[x]? = w.heap[x]? := fun x hx => m3 x (fun e => by
      subst e
      exact (hsub x hx).elim hbf hbm)
    have hrows' := ORows_mono (fun _ h => h) (fun _ h => h) h4.YZ hzz hff hrows
    have hdis : ∀ x ∈ fm, x ∉ (Value.ownBlock (.slice (some ⟨b, 0, none⟩) se.L.length cap)).toList ++ (f1 ++ g0 ++ f3) := fun x hx hx' => hkm (h4.PP hS hm kp np hx' hx)
    have hnd : ((Value.ownBlock (.slice (some ⟨b, 0, none⟩) se.L.length cap)).toList ++ (f1 ++ fm ++ f3)).Nodup := by
      have hd2 : ∀ x ∈ fm, x ∉ (Value.ownBlock (.slice (some ⟨b, 0, none⟩) se.L.length cap)).toList ∧ x ∉ f1 ∧ x ∉ f3 := fun x hx => by
        have := hdis x hx
        simp only [List.append_assoc, List.mem_append, not_or] at this
        exact ⟨this.1, this.2.1, this.2.2.2⟩
      have hn0 := hndf
      simp only [List.append_assoc, List.nodup_append, List.mem_append] at hn0 ⊢
      obtain ⟨a1, ⟨a2, ⟨a3, a4, a5⟩, a6⟩, a7⟩ := hn0
      refine ⟨a1, ⟨a2, ⟨hndm, a4, fun x hx z hz e => (hd2 x hx).2.2 (e ▸ hz)⟩, fun x hx z hz e => ?_⟩, fun x hx z hz e => ?_⟩
      · subst e
        rcases hz with hz | hz
        · exact (hd2 x hz).2.1 hx
        · exact a6 x hx x (.inr hz) rfl
      · subst e
        rcases hz with hz | hz | hz
        · exact a7 x hx x (.inl hz) rfl
        · exact (hd2 x hz).1 hx
        · exact a7 x hx x (.inr (.inr hz)) rfl
    have hxs : cs = cur.toList.take (se.L.length * se.sz) := hct.symm
    have hsv : setV cs (j * se.sz + off) [um] = cs.set (j * se.sz + off) um := rfl
    have hown : OwnE E.Y E.Z w' ⟨se.e, se.sz, se.L.set j (row.set off (.os sm.e sm.sz sm.L)), true⟩ (.slice (some ⟨b, 0, none⟩) se.L.length cap) ((Value.ownBlock (.slice (some ⟨b, 0, none⟩) se.L.length cap)).toList ++ (f1 ++ fm ++ f3)) :=
      (OwnE_nest rfl).2 ⟨cs.set (j * se.sz + off) um, f1 ++ fm ++ f3, ⟨by rw [List.length_set, hxl]; simp, .inr ⟨b, cap, List.toArray (setV cur.toList (j * se.sz + off) [um]), by simp, h0, m2, by simpa using hn1, hn2, by simp [setV_length, hcs], by rw [← hsv]; simp [setV_take, hxs]⟩⟩, hrows', rfl⟩
    have hmem : ∀ x ∈ (Value.ownBlock (.slice (some ⟨b, 0, none⟩) se.L.length cap)).toList ++ (f1 ++ fm ++ f3), x ∈ (Value.ownBlock (.slice (some ⟨b, 0, none⟩) se.L.length cap)).toList ++ (f1 ++ g0 ++ f3) ∨ w.heap.size ≤ x ∨ x ∈ fm := fun x hx => by
      rcases List.mem_append.1 hx with hx | hx
      · exact .inl (List.mem_append_left _ hx)
      · rcases hsub x hx with hx | hx
        · exact .inl (List.mem_append_right _ hx)
        · exact .inr (.inr hx)
    have hkl : kn < S.length := (List.getElem?_eq_some_iff.1 hS).1
    have hS'k : ((S.set kn (some ⟨se.e, se.sz, se.L.set j (row.set off (.os sm.e sm.sz sm.L)), true⟩)).set km none)[kn]? = some (some ⟨se.e, se.sz, se.L.set j (row.set off (.os sm.e sm.sz sm.L)), true⟩) := by
      rw [List.getElem?_set_ne (fun e => hkm e.symm), List.getElem?_set_self hkl]
    have hS'l : ∀ (l : Nat) (x : SE), l ≠ kn → ((S.set kn (some ⟨se.e, se.sz, se.L.set j (row.set off (.os sm.e sm.sz sm.L)), true⟩)).set km none)[l]? = some (some x) → S[l]? = some (some x) ∧ l ≠ km := fun l x hl hx => by
      rcases get_set hx with ⟨_, e, _⟩ | ⟨e1, e2⟩
      · cases e
      · rw [List.getElem?_set_ne (fun e => hl e.symm)] at e2
        exact ⟨e2, fun e => e1 e.symm⟩
    have hkeep := keepsPO h4.YZ k1 ((Value.ownBlock (.slice (some ⟨b, 0, none⟩) se.L.length cap)).toList ++ (f1 ++ fm ++ f3))
    have hsat := h4.setE (T := fun x => x ∈ fm) (e' := ⟨se.e, se.sz, se.L.set j (row.set off (.os sm.e sm.sz sm.L)), true⟩) hS k1 kp hc' hmem
      (fun x hx => by rw [h4.oP km sm fm x hm np hx]; exact ⟨by simp, fun i => by simp⟩)
      (fun x hx l f' e' hl hf hxf => by
        by_cases hlk : l = kn
        · exact hlk
        · obtain ⟨p1, p2⟩ := hS'l l e' hlk hl
          exact absurd (h4.PP p1 hm hf np hxf hx) p2) hnd hown (by simp) hS'k (fun l x hl hx => (hS'l l x hl hx).1) hkeep (.inr rfl)
    rw [cutHP_all] at hsat
    refine seq_skip hi (gOk_ok (o := o) h3 hg) (w' := w') ?_ (.inr rfl) ?_
    · unfold execOp
      simp only [hop, hpv, ← hum, Instr.storeAt, Instr.sureAddr, pure_bind, Sem.run_bind, m1, Result.andThen_ok, Sem.run_pure]
    · rw [hd]
      refine h _ a w' h1 h2 ⟨fun d x hx => ?_⟩ hsat (fun s hs => by cases hs)
      obtain ⟨u', q1, q2⟩ := h3.get d x hx
      exact ⟨u', q1, hkeep w' x u' rfl (C_mono h4.YZ (Env.le_refl E) hzz x u' q2)⟩
/-- An own slice's rows are told in other words. -/
theorem Sat.rows (h : Sat w0 X E H S w) {kn : Nat} {se se' : SE} (hS : S[kn]? = some (some se)) (he : se'.e = se.e ∧ se'.sz = se.sz ∧ se'.L.length = se.L.length) (hrw : ∀ (Y Z : Nat → Prop) w cs f, RowsE Y Z w se cs f → RowsE Y Z w se' cs f) : Sat w0 X E H (S.set kn (some se')) w := by
  refine { h with lV := by rw [List.length_set]; exact h.lV, lP := by rw [List.length_set]; exact h.lP, sl := fun l x hl => ?_, oP := fun l x fp b hl hp hb => ?_, PN := fun l x fp hl hp => ?_ }
  · rcases get_set hl with ⟨rfl, e, _⟩ | ⟨_, e⟩
    · simp only [Option.some.injEq] at e
      subst e
      obtain ⟨v, fp, k1, k2, cs, f, k3, k4, k5⟩ := h.sl kn se hS
      exact ⟨v, fp, k1, k2, cs, f, by rw [he.1, he.2.1, he.2.2]; exact k3, hrw _ _ _ _ _ k4, k5⟩
    · exact h.sl l x e
  · rcases get_set hl with ⟨rfl, e, _⟩ | ⟨_, e⟩
    · exact h.oP kn se fp b hS hp hb
    · exact h.oP l x fp b e hp hb
  · rcases get_set hl with ⟨rfl, e, _⟩ | ⟨_, e⟩
    · exact h.PN kn se fp hS hp
    · exact h.PN l x fp e hp
theorem gi_rows (kn : Nat) {se se' : SE} (hS : S[kn]? = some (some se)) (he : se'.e = se.e ∧ se'.sz = se.sz ∧ se'.L.length = se.L.length) (hrw : ∀ (Y Z : Nat → Prop) w cs f, RowsE Y Z w se cs f → RowsE Y Z w se' cs f) (h : GI c k F H (S.set kn (some se'))) : GI c k F H S :=
  fun E a w h1 h2 h3 h4 => h E a w h1 h2 h3 (h4.rows hS he hrw)
end
end Go.Proofs.Ytmocggibcniggaa.Kw
namespace Go.Proofs.Ytmocggibcniggaa.Kw
open Go
section
variable {c : Ctx} {ops : Array Oper} {k : List Item} {kz : Kz} {q st : Option St} {i : Nat} {m : Md} {sch : List (Nat × Md)} {F : Fr} {H : Hp} {S : Sp} {o : Oper} {d : Nat} {r : AV} {E E' : Env} {a : Act} {w w' : World} {P : Program} {w0 : World} {X : Org}
end
end Go.Proofs.Ytmocggibcniggaa.Kw
/-! ### a range over a function: the iterator, its rounds -/
namespace Go.Proofs.Ytmocggibcniggaa.Kw
open Go
mutual
/-- What holds on while all boxes and slices are elsewhere. -/
def pasA : AV → Bool
  | .r _ => true
  | .box _ _ => true
  | .agg cs => pasL cs
  | .tup cs => pasL cs
  | .fn _ cs => pasL cs
  | .junk => true
  | _ => false
def pasL : List AV → Bool
  | [] => true
  | c :: cs => pasA c && pasL cs
end
/-- Everything is handed over. -/
abbrev OrgAll (E : Env) (n : Nat) : Org := ⟨fun b => E.O b ≠ none, E.Z, E.Y, n, fun i => E.B[i]?, 0, fun _ => none⟩
section
variable {w0 w0' w w' : World} {X : Org} {E E1 : Env} {H H1 : Hp} {S S1 : Sp}
theorem Sat.all (h : Sat w0 X E H S w) : Sat w (OrgAll E H.length) E H S w := { h with
  own := fun b x hb => by
    obtain ⟨h1, _, h3⟩ := h.own b x hb
    exact ⟨h1, .inr (by show E.O b ≠ none; rw [hb]; simp), h3⟩
  old := fun _ _ _ => rfl
  size := Nat.le_refl _
  os := rfl
  tape := rfl
  output := rfl
  dr := Nat.le_refl _
  zin := fun b hb => .inl hb
  zup := fun b hb => hb
  yin := fun b hb => .inl hb
  yup := fun b hb => hb
  bup := fun i b _ hb => hb
  vup := fun i b h _ => absurd h (Nat.not_lt_zero _) }
theorem Sat.back_all (h : Sat w0 X E H S w) (h' : Sat w (OrgAll E H.length) E1 H1 S1 w') (hn : X.nb ≤ H.length) (hnv : X.nv = 0) : Sat w0 X E1 H1 S1 w' := { h' with
  own := fun b x hb => by
    obtain ⟨h1, h2, h3⟩ := h'.own b x hb
    refine ⟨h1, ?_, h3⟩
    rcases h2 with h2 | h2
    · exact .inl (Nat.le_trans h.size h2)
    · obtain ⟨y, hy⟩ := Option.ne_none_iff_exists'.1 h2
      exact (h.own b y hy).2.1
  old := fun b hb hx => by
    refine (h'.old b (Nat.lt_of_lt_of_le hb h.size) (fun hn => ?_)).trans (h.old b hb hx)
    obtain ⟨y, hy⟩ := Option.ne_none_iff_exists'.1 hn
    rcases (h.own b y hy).2.1 with h2 | h2
    · omega
    · exact hx h2
  size := Nat.le_trans h.size h'.size
  os := h'.os.trans h.os
  tape := h'.tape.trans h.tape
  output := h'.output.trans h.output
  dr := Nat.le_trans h.dr h'.dr
  zin := fun b hb => by
    rcases h'.zin b hb with h1 | h1 | h1
    · exact h.zin b h1
    · exact .inr (.inl (Nat.le_trans h.size h1))
    · obtain ⟨y, hy⟩ := Option.ne_none_iff_exists'.1 h1
      exact .inr (h.own b y hy).2.1
  zup := fun b hb => h'.zup b (h.zup b hb)
  yin := fun b hb => by
    rcases h'.yin b hb with h1 | h1 | h1
    · exact h.yin b h1
    · exact .inr (.inl (Nat.le_trans h.size h1))
    · obtain ⟨y, hy⟩ := Option.ne_none_iff_exists'.1 h1
      exact .inr (h.own b y hy).2.1
  yup := fun b hb => h'.yup b (h.yup b hb)
  bup := fun i b hi hb => h'.bup i b (Nat.lt_of_lt_of_le hi hn) (h.bup i b hi hb)
  vup := fun i b h _ => absurd h (by rw [hnv]; exact Nat.not_lt_zero _) }
/-- What is read stands meanwhile. -/
theorem Sat.all_z (h : Sat w0 X E H S w) (h' : Sat w (OrgAll E H.length) E1 H1 S1 w') : ∀ b, E.Z b → w'.heap[b]? = w.heap[b]? := fun b hb => h'.old b (h.Z b hb) (fun hn => by
  obtain ⟨y, hy⟩ := Option.ne_none_iff_exists'.1 hn
  exact (h.own b y hy).2.2 hb)
mutual
theorem C_pas (h : Sat w0 X E H S w) (h' : Sat w (OrgAll E H.length) E1 H1 S1 w') : ∀ (x : AV) (u : Value), pasA x = true → C E w x u → C E1 w' x u
  | .r x, u, _, hx => by unfold C at hx ⊢; exact CR_mono (fun b hb => h'.yup b hb) (fun b hb => h'.zup b hb) h.YZ (h.all_z h') x u hx
  | .box i o, u, _, hx => by
    unfold C at hx ⊢
    obtain ⟨b, h1, h2⟩ := hx
    exact ⟨b, h'.bup i b (by rw [← h.lB]; exact (List.getElem?_eq_some_iff.1 h1).1) h1, h2⟩
  | .agg cs, u, hp, hx => by unfold C at hx ⊢; obtain ⟨us, h1, h2, h3⟩ := hx; exact ⟨us, h1, CL_pas h h' cs us hp h2, h3⟩
  | .tup cs, u, hp, hx => by unfold C at hx ⊢; obtain ⟨us, h1, h2⟩ := hx; exact ⟨us, h1, CL_pas h h' cs us hp h2⟩
  | .fn f cs, u, hp, hx => by unfold C at hx ⊢; obtain ⟨us, h1, h2⟩ := hx; exact ⟨us, h1, CL_pas h h' cs us hp h2⟩
  | .junk, u, _, _ => by unfold C; trivial
  | .sl _, _, hp, _ => by cases hp
  | .el _ _ _ _, _, hp, _ => by cases hp
  | .ss _ _ _ _, _, hp, _ => by cases hp
  | .cap _, _, hp, _ => by cases hp
  | .capLe _ _, _, hp, _ => by cases hp
  | .capGt _ _, _, hp, _ => by cases hp
theorem CL_pas (h : Sat w0 X E H S w) (h' : Sat w (OrgAll E H.length) E1 H1 S1 w') : ∀ (xs : List AV) (us : List Value), pasL xs = true → CL E w xs us → CL E1 w' xs us
  | [], us, _, hx => by unfold CL at hx ⊢; exact hx
  | c :: cs, us, hp, hx => by
    unfold pasL at hp
    rw [Bool.and_eq_true] at hp
    unfold CL at hx ⊢
    obtain ⟨u, r, h1, h2, h3⟩ := hx
    exact ⟨u, r, h1, C_pas h h' c u hp.1 h2, CL_pas h h' cs r hp.2 h3⟩
end
theorem Fits.pas {F : Fr} {a : Act} (hF : Fits E w F a) (h : Sat w0 X E H S w) (h' : Sat w (OrgAll E H.length) E1 H1 S1 w') : Fits E1 w' (cutFP pasA F) a := by
  refine ⟨fun d y hy => ?_⟩
  obtain ⟨x, h1, rfl⟩ := cutF_get hy
  obtain ⟨u, h2, h3⟩ := hF.get d x h1
  refine ⟨u, h2, ?_⟩
  unfold cutP
  cases hp : pasA x with
  | true => exact C_pas h h' x u hp h3
  | false => unfold C; trivial
/-- One block that nobody owns or reads is another. -/
theorem Sat.other (h : Sat w0 X E H S w) {l : Nat} (hZ : ¬ E.Z l) (hO : E.O l = none) (hs : w'.heap.size = w.heap.size) (hb : ∀ b, b ≠ l → w'.heap[b]? = w.heap[b]?)
    (hs0 : w0'.heap.size = w0.heap.size) (hold : ∀ b, b < w0'.heap.size → ¬ X.X b → w'.heap[b]? = w0'.heap[b]?) (h1 : w'.os = w0'.os) (h2 : w'.tape = w0'.tape) (h3 : w'.output = w0'.output) (h4 : w0'.drawn ≤ w'.drawn) : Sat w0' X E H S w' :=
  have hz : ∀ b, E.Z b → w'.heap[b]? = w.heap[b]? := fun b hz => hb b (fun e => hZ (e ▸ hz))
  have ho : ∀ b x, E.O b = some x → w'.heap[b]? = w.heap[b]? := fun b x hx => hb b (fun e => by rw [e, hO] at hx; cases hx)
  { h with
    box := fun i t cs hi => by
      obtain ⟨b, us, k1, k2, k3, k4⟩ := h.box i t cs hi
      exact ⟨b, us, k1, (ho b _ (h.oB i b k1)).trans k2, CL_mono h.YZ (Env.le_refl E) hz _ _ k3, k4⟩
    sl := fun k e hk => by
      obtain ⟨v, fp, k1, k2, k3⟩ := h.sl k e hk
      exact ⟨v, fp, k1, k2, OwnE_mono (fun _ h => h) (fun _ h => h) h.YZ hz (fun b hb => ho b _ (h.oP k e fp b hk k2 hb)) k3⟩
    own := fun b x hx => by rw [hs, hs0]; exact h.own b x hx
    Z := fun b hz => by rw [hs]; exact h.Z b hz
    old := hold
    size := by rw [hs, hs0]; exact h.size
    os := h1
    tape := h2
    output := h3
    dr := h4
    zin := fun b hb => by rw [hs0]; exact h.zin b hb
    yin := fun b hb => by rw [hs0]; exact h.yin b hb }
/-- A block of the elder memory that is neither handed over nor told as read. -/
structure Far (w0 : World) (X : Org) (l : Nat) : Prop where
  lt : l < w0.heap.size
  fx : ¬ X.X l
  fz : ¬ X.Z0 l
theorem Far.z {l : Nat} (hf : Far w0 X l) (h : Sat w0 X E H S w) : ¬ E.Z l := fun hz => by
  rcases h.zin l hz with h1 | h1 | h1
  · exact hf.fz h1
  · exact absurd hf.lt (by omega)
  · exact hf.fx h1
theorem Far.o {l : Nat} (hf : Far w0 X l) (h : Sat w0 X E H S w) : E.O l = none := by
  cases ho : E.O l with
  | none => rfl
  | some x =>
    rcases (h.own l x ho).2.1 with h1 | h1
    · exact absurd hf.lt (by omega)
    · exact absurd h1 hf.fx
theorem Far.heap {l : Nat} (hf : Far w0 X l) (h : Sat w0 X E H S w) : w.heap[l]? = w0.heap[l]? := h.old l hf.lt hf.fx
end
/-! ### a round -/
def busy (r : Loop) : Loop := { r with state := .busy }
def ready (r : Loop) : Loop := { r with state := .ready, pending := none }
/-- A round has ended, and goes on. -/
def RetY (w : World) (X : Org) (Post : Hp → Sp → Prop) : Ending → World → Prop := fun e w' =>
  ∃ H S E, e = .returned (.bool true) ∧ Post H S ∧ Sat w X E H S w' ∧ X.nb ≤ H.length
/-- What the frame of the rounds holds of boxes. -/
def SnapOk (B : Nat → Option Nat) (nb : Nat) (tmps : Array Value) (Fs : Fr) : Prop :=
  ∀ d x, Fr.get Fs d = some x → ∃ i off b, x = .box i off ∧ i < nb ∧ B i = some b ∧ tmps[d]? = some (hnd off b)
theorem SnapOk.fits {w0 w : World} {X : Org} {E : Env} {H : Hp} {S : Sp} {tmps : Array Value} {Fs : Fr} (h : SnapOk X.B0 X.nb tmps Fs) (hs : Sat w0 X E H S w) : Fits E w Fs ⟨tmps, []⟩ :=
  ⟨fun d x hx => by
    obtain ⟨i, off, b, rfl, hi, hb, ht⟩ := h d x hx
    exact ⟨_, ht, by unfold C; exact ⟨b, hs.bup i b hi hb, rfl⟩⟩⟩
/-- The contract of one round (of two parameters). -/
def RdSpec (P : Program) (l : Nat) (r : Loop) (xs : List AV) (Fs : Fr) (H : Hp) (S : Sp) (Post : Hp → Sp → Prop) : Prop :=
  ∀ (w : World) (E : Env) (us : List Value), Sat w (OrgAll E H.length) E H S w → w.heap[l]? = some (.loop r) → Far w (OrgAll E H.length) l → CL E w xs us → SnapOk (fun i => E.B[i]?) H.length r.tmps Fs →
    RoundIn Fence.wide 0 P l r.fn ((r.params.zip (List.toArray us)).foldl (fun tmps (t, a) => tmps.setIfInBounds t a) r.tmps) r.assign r.body w (RetY w (OrgAll E H.length) Post)
section
variable {c : Ctx} {k : List Item} {F : Fr} {H : Hp} {S : Sp} {l : Nat} {r : Loop}
/-- The assignments are done: the body begins. -/
theorem gi_begin (hro : c.ro = some l) (hl : c.w0.heap[l]? = some (.loop r)) (hr : r.state = .ready) (hf : Far c.w0 c.X l) (h : GI { c with w0 := c.w0.putObj l (.loop (busy r)) } k F H S) : GI c (.beginRound :: k) F H S := by
  intro E a w h1 h2 h3 h4
  have hwl := (hf.heap h4).trans hl
  have hll : l < w.heap.size := (Array.getElem?_eq_some_iff.1 hwl).1
  have hsat : Sat (c.w0.putObj l (.loop (busy r))) c.X E H S (w.putObj l (.loop (busy r))) := h4.other (hf.z h4) (hf.o h4) World.putObj_size (fun b hb => World.putObj_heap_other hb) World.putObj_size (fun b hb hx => by
    by_cases e : b = l
    · subst e; rw [World.putObj_heap_same hll, World.putObj_heap_same hf.lt]
    · rw [World.putObj_heap_other e, World.putObj_heap_other e]
      exact h4.old b (by rwa [World.putObj_size] at hb) hx) h4.os h4.tape h4.output h4.dr
  have hz : ∀ b, E.Z b → (w.putObj l (.loop (busy r))).heap[b]? = w.heap[b]? := fun b hb => World.putObj_heap_other (fun e => hf.z h4 (e ▸ hb))
  have := h E a (w.putObj l (.loop (busy r))) h1 h2 (h3.mono h4.YZ (Env.le_refl E) hz) hsat
  intro b cs g1 g2 g3 g4
  obtain ⟨e, w', m, q1, q2, q3⟩ := this b cs g1 g2 g3 g4
  exact ⟨e, w', m, q1, q2.of_steps (.one (stepR_beginRound (g3.trans hro) (run_beginRound hwl hr))), q3⟩
/-- The body has come to its end. -/
theorem gi_endR {Post : Hp → Sp → Prop} {w0 : World} (hro : c.ro = some l) (hw : c.w0 = w0.putObj l (.loop (busy r))) (hl : w0.heap[l]? = some (.loop (ready r))) (hf : Far w0 c.X l) (hR : c.R = RetY w0 c.X Post) (hn : Nat.ble c.X.nb H.length = true) (hp : Post H S) : GI c [] F H S := by
  intro E a w h1 h2 h3 h4
  have hf' : Far c.w0 c.X l := ⟨by rw [hw, World.putObj_size]; exact hf.lt, hf.fx, hf.fz⟩
  have hwl : w.heap[l]? = some (.loop (busy r)) := by rw [hf'.heap h4, hw, World.putObj_heap_same hf.lt]
  have hll : l < w.heap.size := (Array.getElem?_eq_some_iff.1 hwl).1
  have hsz : c.w0.heap.size = w0.heap.size := by rw [hw, World.putObj_size]
  have hsat : Sat w0 c.X E H S (w.putObj l (.loop (ready r))) := h4.other (hf'.z h4) (hf'.o h4) World.putObj_size (fun b hb => World.putObj_heap_other hb) hsz.symm (fun b hb hx => by
    by_cases e : b = l
    · subst e; rw [World.putObj_heap_same hll, hl]
    · rw [World.putObj_heap_other e, h4.old b (by rw [hsz]; exact hb) hx, hw, World.putObj_heap_other e]) (by have := h4.os; rw [hw] at this; exact this) (by have := h4.tape; rw [hw] at this; exact this) (by have := h4.output; rw [hw] at this; exact this) (by have := h4.dr; rw [hw] at this; exact this)
  intro b cs g1 g2 g3 g4
  obtain ⟨cc, cs', hcs⟩ : ∃ x y, cs = x :: y := by
    cases cs with
    | nil => exact absurd rfl (g4 (by rw [hro]; simp))
    | cons x y => exact ⟨x, y, rfl⟩
  subst hcs
  have hend : (Instr.endRound l none).run c.P w = .ok (.bool true) (w.putObj l (.loop (ready r))) := run_endRound (r := busy r) none hwl
  refine ⟨.returned (.bool true), w.putObj l (.loop (ready r)), _, by rw [hR]; exact ⟨H, S, E, rfl, hp, hsat, Nat.le_of_ble_eq_true hn⟩, Steps.one (stepR_round_end (g3.trans hro) g2 hend), ?_⟩
  unfold Left
  rw [hro]
  exact ⟨cc, cs', _, rfl, rfl, rfl⟩
end
theorem rd_intro {P : Program} {T : Tab} {l : Nat} {r : Loop} {fn : Func} {n p0 p1 : Nat} {x0 x1 : AV} {Fs : Fr} {H : Hp} {S : Sp} {Post : Hp → Sp → Prop} (hr : r = ready r) (hps : r.params = #[p0, p1]) (hn : r.tmps.size = n) (h0 : Nat.blt p0 n = true) (h1 : Nat.blt p1 n = true)
    (h : ∀ (w : World) (X : Org), X.nb = H.length ∧ X.nv = 0 → w.heap[l]? = some (.loop r) → Far w X l → GI ⟨P, T, r.fn, fn, n, w, X, RetY w X Post, some l, false, []⟩ [.code r.assign, .beginRound, .code r.body] ((p1, x1) :: (p0, x0) :: Fs) H S) : RdSpec P l r [x0, x1] Fs H S Post := by
  intro w E us hs hl hf hc hsn
  unfold CL at hc
  obtain ⟨u0, r0, rfl, c0, hc⟩ := hc
  unfold CL at hc
  obtain ⟨u1, r1, rfl, c1, hc⟩ := hc
  unfold CL at hc
  subst hc
  have hF := hsn.fits (X := OrgAll E H.length) hs
  have hG := h w (OrgAll E H.length) ⟨rfl, rfl⟩ hl hf E { tmps := (r.tmps.setIfInBounds p0 u0).setIfInBounds p1 u1, defers := [] } w (by simp [hn]) rfl
    (by
      have := (hF.put (d := p0) c0 (by rw [hn]; exact h0)).put (d := p1) c1 (by show Nat.blt p1 (r.tmps.setIfInBounds p0 u0).size = true; rw [Array.size_setIfInBounds, hn]; exact h1)
      exact this) hs
  refine ⟨trivial, fun cc cs _ => ?_⟩
  let b : Frame := { (default : Frame) with fn := r.fn, kind := .normal, roundOf := some l }
  obtain ⟨e, w', m, q1, q2, q3⟩ := hG b (cc :: cs) rfl rfl rfl (fun _ h => by cases h)
  unfold Left at q3
  obtain ⟨cc', cs', v, e1, rfl, rfl⟩ := q3
  cases e1
  refine ⟨.returned v, w', q1, ?_⟩
  have hz : (r.params.zip (List.toArray [u0, u1])).foldl (fun tmps (t, a) => tmps.setIfInBounds t a) r.tmps = (r.tmps.setIfInBounds p0 u0).setIfInBounds p1 u1 := by
    rw [hps]; simp
  rw [hz]
  have hb0 : Frame.round l r.fn ((r.tmps.setIfInBounds p0 u0).setIfInBounds p1 u1) r.assign r.body .normal = b.atR { tmps := (r.tmps.setIfInBounds p0 u0).setIfInBounds p1 u1, defers := [] } [.code r.assign, .beginRound, .code r.body] := by
    simp [Frame.round, Frame.atR, b]
  rw [hb0]
  exact comesIn_wide.2 q2
/-! ### the iterator -/
abbrev yieldA (l : Nat) : AV := .r (.v (.func (.yield l) #[] #[]))
section
variable {c : Ctx} {ops : Array Oper} {k : List Item} {kz : Kz} {q st : Option St} {i : Nat} {m : Md} {sch : List (Nat × Md)} {F : Fr} {H : Hp} {S : Sp} {o : Oper} {d : Nat}
theorem r_yield {cl : Call} {z : Operand} {xs : List AV} {l : Nat} {r : Loop} {Fs : Fr} {Post : Hp → Sp → Prop} (hyl : c.yl = true) (hi : ops[i]? = some o) (hop : o.op = .call cl) (hd : o.dst = some d) (hn : Nat.blt d c.n = true) (hg : gOk ops F o.guard = some true)
    (hc : cl.callee = .value z) (hz : ev F z = some (yieldA l)) (ha : evs F cl.args.toList = some xs) (hps : xs.length = r.params.size) (hl : c.w0.heap[l]? = some (.loop r)) (hf : Far c.w0 c.X l) (hsn : SnapOk c.X.B0 c.X.nb r.tmps Fs) (hnb : Nat.ble c.X.nb H.length = true)
    (spec : RdSpec c.P l r xs Fs H S Post) (h : ∀ H1 S1, Post H1 S1 → GR c ops kz q none sch ((d, .r (.v (.bool true))) :: cutFP pasA F) H1 S1) (hnv : c.X.nv = 0 := by rfl) : GR c ops kz q st ((i, .l) :: sch) F H S := by
  intro E a w h1 h2 h3 h4 h5
  have hzv := C_v (h3.ev hz)
  have hxs := h3.evs ha
  have hwl := (hf.heap h4).trans hl
  have hlz := hf.z h4
  have hlo := hf.o h4
  have hlen : (cl.args.map a.eval).size = r.params.size := by
    have := CL_length hxs
    rw [List.length_map] at this
    rw [Array.size_map, ← hps, ← this, Array.length_toList]
  have hrun : (execOp a.eval o).run c.P w = .ok (.round l r.fn ((r.params.zip (cl.args.map a.eval)).foldl (fun tmps (t, a) => tmps.setIfInBounds t a) r.tmps) r.assign r.body) w := by
    unfold execOp
    simp only [hop, resolve, hc, hzv, Deferred.ofValue, pure_bind, invoke, Array.empty_append, Array.append_empty]
    exact run_yield hwl hlen
  have hsa := h4.all
  have hsn' : SnapOk (fun i => E.B[i]?) H.length r.tmps Fs := fun d x hx => by
    obtain ⟨i, off, b, rfl, q1, q2, q3⟩ := hsn d x hx
    exact ⟨i, off, b, rfl, Nat.lt_of_lt_of_le q1 (Nat.le_of_ble_eq_true hnb), h4.bup i b q1 q2, q3⟩
  have hfar : Far w (OrgAll E H.length) l := ⟨(Array.getElem?_eq_some_iff.1 hwl).1, fun hh => hh hlo, hlz⟩
  have hrd := spec w E (cl.args.toList.map a.eval) hsa hwl hfar hxs hsn'
  have harr : List.toArray (cl.args.toList.map a.eval) = cl.args.map a.eval := by
    cases cl.args; simp
  rw [harr] at hrd
  refine ⟨o, hi, fun K hK => ?_⟩
  rw [if_pos (gOk_ok (o := o) h3 hg)]
  refine .inr ⟨hyl, l, _, _, _, _, w, hrun, hrd.mono fun e w' hh => ?_⟩
  obtain ⟨H1, S1, E1, rfl, hpost, hsat, hnl⟩ := hh
  refine hK _ _ ?_
  rw [hd]
  refine h H1 S1 hpost E1 _ w' ?_ ?_ ((h3.pas h4 hsat).put (C_v_mk rfl) (by rw [h1]; exact hn)) (h4.back_all hsat (Nat.le_of_ble_eq_true hnb) hnv) (fun s hs => by cases hs)
  · rw [(put_size _ _ _).1]; exact h1
  · rw [(put_size _ _ _).2]; exact h2
end
/-- The contract of an iterator that is handed everything. -/
def ItSpec (P : Program) (g : FuncId) (l : Nat) (r : Loop) (xs : List AV) (Fs : Fr) (H : Hp) (S : Sp) (Post : Hp → Sp → Prop) : Prop :=
  ∀ (w : World) (E : Env) (us : List Value), Sat w (OrgAll E H.length) E H S w → w.heap[l]? = some (.loop r) → Far w (OrgAll E H.length) l → CL E w xs us → SnapOk (fun i => E.B[i]?) H.length r.tmps Fs →
    Calls P g (List.toArray us) w (RetX w (OrgAll E H.length) (fun _ H1 S1 => Post H1 S1))
theorem it_intro {P : Program} {T : Tab} {g : FuncId} {fn : Func} {n : Nat} {code : Code} {l : Nat} {r : Loop} {xs : List AV} {Fs : Fr} {H : Hp} {S : Sp} {Post : Hp → Sp → Prop} (hf : P.funcs[g]? = some fn) (hb : fn.body = some code) (hn : fn.ntmps = n) (hl : Nat.ble xs.length n = true)
    (h : ∀ (w : World) (X : Org), X.nb = H.length ∧ X.nv = 0 → w.heap[l]? = some (.loop r) → Far w X l → SnapOk X.B0 X.nb r.tmps Fs → GI ⟨P, T, g, fn, n, w, X, RetX w X (fun _ H1 S1 => Post H1 S1), none, true, []⟩ [.code code] (argsF 0 xs) H S) : ItSpec P g l r xs Fs H S Post := by
  intro w E us hs hrl hfar hc hsn
  refine calls_of_reach (c := ⟨P, T, g, fn, n, w, OrgAll E H.length, RetX w (OrgAll E H.length) (fun _ H1 S1 => Post H1 S1), none, true, []⟩) rfl hf hb ?_
  have hul := CL_length hc
  have hl' := Nat.le_of_ble_eq_true hl
  refine h w (OrgAll E H.length) ⟨rfl, rfl⟩ hrl hfar hsn E _ w ?_ rfl ?_ hs
  · simp [hn, hul]; omega
  · exact fits_args hc
/-! ### the statement -/
abbrev markD (D : Nat) : Deferred := { target := .collected D, args := #[] }
/-- What lies behind a range over a function. -/
structure Behind (w0 : World) (X : Org) (w3 : World) (X3 : Org) (D : Nat) : Prop where
  up : ∀ E H S w, Sat w3 X3 E H S w → X.nb ≤ H.length → Sat w0 X E H S w
  far : Far w3 X3 D
  def_ : w3.heap[D]? = some (.deferred (some []))
  new : w0.heap.size ≤ D
section
variable {c : Ctx} {k : List Item} {F : Fr} {H : Hp} {S : Sp}
theorem gi_range {z : Operand} {p0 p1 : Tmp} {assign body : Code} {g : FuncId} {cap : List AV} {fn : Func} {Fs : Fr} {Post : Hp → Sp → Prop} (hro : c.ro = none) (hds : c.ds = []) (hz : ev F z = some (.fn g cap)) (hfn : c.P.funcs[g]? = some fn) (hnm : (fn.name == "runtime.NumGoroutine") = false) (hbd : fn.body.isSome = true)
    (hsn : ∀ d x, Fr.get Fs d = some x → Fr.get F d = some x ∧ ∃ i off, x = .box i off) (hp : pasL cap = true) (hnb : Nat.ble c.X.nb H.length = true)
    (spec : ∀ (l : Nat) (tmps : Array Value) (D : Nat), tmps.size = c.n → ItSpec c.P g l { state := .ready, pending := none, fn := c.f, tmps, params := #[p0, p1], assign, body, defers := D } (yieldA l :: cap) Fs H S Post)
    (h : ∀ (w3 : World) (X3 : Org) (D : Nat) H1 S1, Post H1 S1 → X3.nb = c.X.nb ∧ X3.nv = 0 → Behind c.w0 c.X w3 X3 D → GI { c with w0 := w3, X := X3, ds := [markD D] } k (cutFP pasA F) H1 S1) (hnv : c.X.nv = 0 := by rfl) : GI c (.code (.rangeFunc z #[p0, p1] assign body) :: k) F H S := by
  intro E a w h1 h2 h3 h4
  have hzv := h3.ev hz
  unfold C at hzv
  obtain ⟨us, hu, hcap⟩ := hzv
  obtain ⟨D, hD⟩ : ∃ D, D = w.heap.size := ⟨_, rfl⟩
  obtain ⟨l, hl⟩ : ∃ l, l = w.heap.size + 1 := ⟨_, rfl⟩
  obtain ⟨r, hr⟩ : ∃ r : Loop, r = { state := .ready, pending := none, fn := c.f, tmps := a.tmps, params := #[p0, p1], assign := assign, body := body, defers := w.heap.size } := ⟨_, rfl⟩
  obtain ⟨w2, hw2⟩ : ∃ w2, w2 = (w.alloc (.deferred (some []))).alloc (.loop r) := ⟨_, rfl⟩
  have henter := run_enterLoop_outer (P := c.P) (w := w) c.f a.tmps #[p0, p1] assign body
  rw [← hr, ← hw2, ← hl, ← hD] at henter
  have hst : Stays w w2 := by
    rw [hw2]
    have s1 := stays_push w (.deferred (some []))
    have s2 := stays_push (w.alloc (.deferred (some []))) (.loop r)
    exact ⟨Nat.le_trans s1.size s2.size, fun b hb hx => (s2.block b (Nat.lt_of_lt_of_le hb s1.size) hx).trans (s1.block b hb hx), rfl, rfl, rfl, Nat.le_refl _⟩
  have h4' := h4.stays hst
  have hw2l : w2.heap[l]? = some (.loop r) := by
    rw [hw2, hl]
    have := World.alloc_heap_new (w.alloc (.deferred (some []))) (.loop r)
    rwa [World.size_alloc] at this
  have hw2D : w2.heap[D]? = some (.deferred (some [])) := by
    rw [hw2, hD]
    have e1 := World.alloc_heap_new w (.deferred (some []))
    have := (stays_push (w.alloc (.deferred (some []))) (.loop r)).block w.heap.size (by rw [World.size_alloc]; omega) (fun h => h)
    exact this.trans e1
  have hnz : ∀ b, w.heap.size ≤ b → ¬ E.Z b := fun b hb hz => absurd (h4.Z b hz) (by omega)
  have hno : ∀ b, w.heap.size ≤ b → E.O b = none := fun b hb => by
    cases ho : E.O b with
    | none => rfl
    | some x => exact absurd (h4.own b x ho).1 (by omega)
  have hlt : ∀ {b o}, w2.heap[b]? = some o → b < w2.heap.size := fun h => (Array.getElem?_eq_some_iff.1 h).1
  have hfl : Far w2 (OrgAll E H.length) l := ⟨hlt hw2l, fun hh => hh (hno l (by omega)), hnz l (by omega)⟩
  have hfD : Far w2 (OrgAll E H.length) D := ⟨hlt hw2D, fun hh => hh (hno D (by omega)), hnz D (by omega)⟩
  have hsn' : SnapOk (fun i => E.B[i]?) H.length r.tmps Fs := fun d x hx => by
    obtain ⟨q1, i, off, rfl⟩ := hsn d x hx
    obtain ⟨u, q2, q3⟩ := h3.get d _ q1
    unfold C at q3
    obtain ⟨b, q4, rfl⟩ := q3
    exact ⟨i, off, b, rfl, by rw [← h4.lB]; exact (List.getElem?_eq_some_iff.1 q4).1, q4, by rw [hr]; exact q2⟩
  have hfit2 : Fits E w2 F a := h3.mono h4.YZ (Env.le_refl E) (fun b hb => hst.blk (h4.Z b hb))
  have hcl : CL E w2 (yieldA l :: cap) (.func (.yield l) #[] #[] :: us) := by
    unfold CL
    exact ⟨_, _, rfl, C_v_mk rfl, CL_mono h4.YZ (Env.le_refl E) (fun b hb => hst.blk (h4.Z b hb)) _ _ hcap⟩
  have hcall := spec l a.tmps w.heap.size h1 w2 E _ h4'.all (by rw [← hr]; exact hw2l) hfl hcl (by rw [← hr]; exact hsn')
  intro b cs g1 g2 g3 g4
  have hres : (resolve a.eval (rangeCall z l) 0).run c.P w2 = .ok { target := .fn (.func g) (List.toArray us), args := #[.func (.yield l) #[] #[]] } w2 := by
    have he : a.eval (.const (.func (.yield l) #[] #[])) = .func (.yield l) #[] #[] := rfl
    simp [resolve, rangeCall, hu, Deferred.ofValue, he]
  have hinv : (invoke (.fn (.func g) (List.toArray us)) #[.func (.yield l) #[] #[]]).run c.P w2 = .ok (.enter g (List.toArray (.func (.yield l) #[] #[] :: us))) w2 := by
    have hn' : fn.name ≠ "runtime.NumGoroutine" := by simpa using hnm
    obtain ⟨c', hc'⟩ := Option.isSome_iff_exists.1 hbd
    simp [invoke, callFunc, hfn, hn', hc']
  have hstep := stepR_rangeFunc (P := c.P) (b := b) (a := a) (k := k) (cs := cs) (w := w) (g := z) (ps := #[p0, p1]) (assign := assign) (body := body) (by rw [g3, hro, g1]; exact henter) hres hinv
  obtain ⟨e, w3, fr, q1, q2, q3, q4⟩ := hcall (b.atR { a with defers := [markD D] ++ a.defers } (.inRangeFunc l :: k) :: cs)
  obtain ⟨u, rr, H1, S1, E1, rfl, hpost, _, hsat, hnl⟩ := q1
  have hw3l : w3.heap[l]? = some (.loop r) := (hfl.heap hsat).trans hw2l
  have hl3 : l < w3.heap.size := (Array.getElem?_eq_some_iff.1 hw3l).1
  have hend : (Instr.endLoop l).run c.P w3 = .ok none (w3.putObj l (.loop { r with state := .exhausted })) := by
    have := run_endLoop (P := c.P) hw3l (by rw [hr]; simp)
    rw [this, hr]
  obtain ⟨w4, hw4⟩ : ∃ w4, w4 = w3.putObj l (.loop { r with state := .exhausted }) := ⟨_, rfl⟩
  rw [← hw4] at hend
  have hsz4 : w4.heap.size = w3.heap.size := by rw [hw4]; exact World.putObj_size
  have hup := h4'.back_all hsat (Nat.le_of_ble_eq_true hnb) hnv
  have hz1 : ¬ E1.Z l := hfl.z hsat
  have ho1 : E1.O l = none := hfl.o hsat
  have hsat4 : Sat c.w0 c.X E1 H1 S1 w4 := hup.other hz1 ho1 hsz4 (fun b hb => by rw [hw4]; exact World.putObj_heap_other hb) rfl (fun b hb hx => by
    have : b ≠ l := fun e => by have := h4.size; omega
    rw [hw4, World.putObj_heap_other this]
    exact hup.old b hb hx) (by rw [hw4]; exact hup.os) (by rw [hw4]; exact hup.tape) (by rw [hw4]; exact hup.output) (by rw [hw4]; exact hup.dr)
  have hDl : D ≠ l := by omega
  have hw4D : w4.heap[D]? = some (.deferred (some [])) := by
    rw [hw4, World.putObj_heap_other hDl]
    exact (hfD.heap hsat).trans hw2D
  have hfit4 : Fits E1 w4 (cutFP pasA F) a := (hfit2.pas h4' hsat).mono hsat.YZ (Env.le_refl E1) (fun b hb => by rw [hw4]; exact World.putObj_heap_other (fun e => hz1 (e ▸ hb)))
  have hbh : Behind c.w0 c.X w4 { OrgAll E1 H1.length with nb := c.X.nb } D := by
    refine ⟨fun E2 H2 S2 w5 hs hn => ?_, ⟨by rw [hsz4]; exact Nat.lt_of_lt_of_le hfD.lt hsat.size, fun hh => hh (hfD.o hsat), hfD.z hsat⟩, hw4D, by have := h4.size; omega⟩
    have hq : Sat w4 (OrgAll E1 c.X.nb) E2 H2 S2 w5 := hs
    refine { hs with own := fun b x hb => ?_, old := fun b hb hx => ?_, size := Nat.le_trans hsat4.size hs.size, os := hs.os.trans hsat4.os, tape := hs.tape.trans hsat4.tape, output := hs.output.trans hsat4.output, dr := Nat.le_trans hsat4.dr hs.dr, zin := fun b hb => ?_, zup := fun b hb => hs.zup b (hsat4.zup b hb), yin := fun b hb => ?_, yup := fun b hb => hs.yup b (hsat4.yup b hb), bup := fun i b hi hb => hs.bup i b hi (hsat4.bup i b hi hb), vup := fun i b h _ => absurd h (by rw [hnv]; exact Nat.not_lt_zero _) }
    · obtain ⟨j1, j2, j3⟩ := hs.own b x hb
      refine ⟨j1, ?_, j3⟩
      rcases j2 with j2 | j2
      · exact .inl (Nat.le_trans hsat4.size j2)
      · obtain ⟨y, hy⟩ := Option.ne_none_iff_exists'.1 j2
        exact (hsat4.own b y hy).2.1
    · refine (hs.old b (Nat.lt_of_lt_of_le hb hsat4.size) (fun hn => ?_)).trans (hsat4.old b hb hx)
      obtain ⟨y, hy⟩ := Option.ne_none_iff_exists'.1 hn
      rcases (hsat4.own b y hy).2.1 with j2 | j2
      · omega
      · exact hx j2
    · rcases hs.zin b hb with j1 | j1 | j1
      · exact hsat4.zin b j1
      · exact .inr (.inl (Nat.le_trans hsat4.size j1))
      · obtain ⟨y, hy⟩ := Option.ne_none_iff_exists'.1 j1
        exact .inr (hsat4.own b y hy).2.1
    · rcases hs.yin b hb with j1 | j1 | j1
      · exact hsat4.yin b j1
      · exact .inr (.inl (Nat.le_trans hsat4.size j1))
      · obtain ⟨y, hy⟩ := Option.ne_none_iff_exists'.1 j1
        exact .inr (hsat4.own b y hy).2.1
  have hsat5 : Sat w4 { OrgAll E1 H1.length with nb := c.X.nb } E1 H1 S1 w4 := { hsat4.all with bup := fun i b _ hb => hb }
  have hgo := h w4 { OrgAll E1 H1.length with nb := c.X.nb } D H1 S1 hpost ⟨rfl, rfl⟩ hbh E1 { a with defers := [markD D] } w4 h1 rfl ⟨hfit4.get⟩ hsat5
  obtain ⟨e2, w5, m, t1, t2, t3⟩ := hgo b cs g1 g2 g3 g4
  refine ⟨e2, w5, m, t1, ?_, t3⟩
  have hdd : [markD D] ++ a.defers = [markD D] := by rw [h2, hds]; rfl
  rw [hdd] at q2 hstep
  have hback : step c.P (lone fr (b.atR { a with defers := [markD D] } (.inRangeFunc l :: k) :: cs) w3) = .next (lone (b.atR { a with defers := [markD D] } (.endRangeFunc l :: k)) cs w3) := by
    rw [step_leave_returned q4, finish_atR_inRangeFunc l u]
  have hlast : step c.P (lone (b.atR { a with defers := [markD D] } (.endRangeFunc l :: k)) cs w3) = .next (lone (b.atR { a with defers := [markD D] } k) cs w4) := stepR_endRangeFunc hend
  have s1 : Steps c.P (lone (b.atR a (.code (.rangeFunc z #[p0, p1] assign body) :: k)) cs w) (lone (b.atR { a with defers := [markD D] } k) cs w4) :=
    (Steps.one hstep).trans (Steps.trans q2 ((Steps.one hback).trans (Steps.one hlast)))
  exact t2.of_steps s1
/-- The return of a function that has ranged over one. -/
theorem gi_retM {w0 : World} {X : Org} {D : Nat} {Post : AV → Hp → Sp → Prop} {r r' : AV} {H' : Hp} {S' : Sp} (hb : Behind w0 X c.w0 c.X D) (hnX : c.X.nb = X.nb) (hT : TabOk c.P c.T) (hf : c.P.funcs[c.f]? = some c.fn) (hc : c.R = RetX w0 X Post) (bs ks : List Nat) (hr : resV c.T F H c.fn.results.toList = some r) (hnb : nodupN bs = true) (hnk : nodupN ks = true) (hp : prefN X.nb bs = true)
    (hs : selA bs ks r = some r') (hH : selH bs ks H bs = some H') (hS : selS S ks = some S') (hlen : Nat.ble X.nb H'.length = true) (hlenH : Nat.ble X.nb H.length = true) (hpost : Post r' H' S') (hro : c.ro = none) (hds : c.ds = [markD D]) (hpv : prefN X.nv ks = true := by rfl) : GI c (.code .ret :: k) F H S := by
  intro E a w h1 h2 h3 h4
  have hz := hb.far.z h4
  have ho := hb.far.o h4
  have hwD := (hb.far.heap h4).trans hb.def_
  have hup := hb.up E H S w h4 (Nat.le_of_ble_eq_true hlenH)
  obtain ⟨w', hw'⟩ : ∃ w', w' = w.putObj D (.deferred none) := ⟨_, rfl⟩
  have hsz : w'.heap.size = w.heap.size := by rw [hw']; exact World.putObj_size
  have hsat : Sat w0 X E H S w' := hup.other hz ho hsz (fun b hb => by rw [hw']; exact World.putObj_heap_other hb) rfl (fun b hb' hx => by
    have : b ≠ D := fun e => by have := hb.new; omega
    rw [hw', World.putObj_heap_other this]
    exact hup.old b hb' hx) (by rw [hw']; exact hup.os) (by rw [hw']; exact hup.tape) (by rw [hw']; exact hup.output) (by rw [hw']; exact hup.dr)
  have hfit : Fits E w' F a := h3.mono h4.YZ (Env.le_refl E) (fun b hb => by rw [hw']; exact World.putObj_heap_other (fun e => hz (e ▸ hb)))
  obtain ⟨u, hu, hrun⟩ := resV_ok hT hfit hsat hr
  intro b cs g1 g2 g3 g4
  have hgo : step c.P (lone (b.atR a (.code .ret :: k)) cs w) = .next (lone { b.atR a (.code .ret :: k) with mode := .returning } cs w) := stepR_ret (g3.trans hro)
  have htk := step_collected (P := c.P) (fr := { b.atR a (.code .ret :: k) with mode := .returning }) (cs := cs) (w := w) (d := markD D) (ds := []) (by simp) (by show a.defers = _; rw [h2, hds]) rfl (run_takeDeferred hwD)
  rw [← hw'] at htk
  refine ⟨.returned u, w', _, by rw [hc]; exact ⟨u, r', H', S', E.pick bs ks, rfl, hpost, C_sel r r' u hs hu, hsat.pick hnb hnk hp hH hS hpv, Nat.le_of_ble_eq_true hlen⟩, (Steps.one hgo).trans (Steps.one htk), ?_⟩
  unfold Left
  rw [hro]
  refine ⟨_, rfl, g1, ⟨rfl, rfl, g2, c.fn, by rw [← hf, ← g1]; rfl, hrun⟩⟩
end
end Go.Proofs.Ytmocggibcniggaa.Kw
/-! ### a call that changes the rows of a slice that it is handed, and nothing of its header -/
namespace Go.Proofs.Ytmocggibcniggaa.Kw
open Go
/-- What such a call leaves: the slice, as long as it was, with rows of values. -/
def InPost (e : TypeId) (sz n : Nat) (R : List (List RV) → Prop) : AV → Hp → Sp → Prop := fun r H S =>
  r = .tup [] ∧ H = [] ∧ ∃ L', S = [some ⟨e, sz, L', false⟩] ∧ L'.length = n ∧ (∀ row ∈ L', ∀ x ∈ row, ∃ v, x = RV.v v) ∧ R L'
/-- THE CONTRACT of a function that changes a slice in place. -/
def FnI (P : Program) (g : FuncId) (args : List AV) (e : TypeId) (sz : Nat) (L : List (List RV)) (R : List (List RV) → Prop) : Prop :=
  ∀ (w : World) (Xp : Nat → Prop) (E : Env) (us : List Value), Sat w ⟨Xp, E.Z, E.Y, 0, fun i => E.B[i]?, 1, fun k => E.V[k]?⟩ E [] [some ⟨e, sz, L, false⟩] w → CL E w args us →
    Calls P g (List.toArray us) w (RetX w ⟨Xp, E.Z, E.Y, 0, fun i => E.B[i]?, 1, fun k => E.V[k]?⟩ (InPost e sz L.length R))
theorem FnI.mono {P : Program} {g : FuncId} {args : List AV} {e : TypeId} {sz : Nat} {L : List (List RV)} {R R' : List (List RV) → Prop} (h : FnI P g args e sz L R) (hr : ∀ L', R L' → R' L') : FnI P g args e sz L R' :=
  fun w X E us hs hc => (h w X E us hs hc).mono fun _ _ ⟨u, r, H, S, E', h1, ⟨p1, p2, L', p3, p4, p5, p6⟩, h3, h4, h5⟩ => ⟨u, r, H, S, E', h1, ⟨p1, p2, L', p3, p4, p5, hr L' p6⟩, h3, h4, h5⟩
section
variable {w0 w w' : World} {X : Org} {E : Env} {H : Hp} {S : Sp}
end
variable {c : Ctx} {ops : Array Oper} {kz : Kz} {q st : Option St} {i : Nat} {sch : List (Nat × Md)} {F : Fr} {H : Hp} {S : Sp} {o : Oper}
end Go.Proofs.Ytmocggibcniggaa.Kw
namespace Go.Proofs.Ytmocggibcniggaa.Kw
open Go
section
variable {c : Ctx} {ops : Array Oper} {k : List Item} {kz : Kz} {q st : Option St} {i : Nat} {m : Md} {sch : List (Nat × Md)} {F : Fr} {H : Hp} {S : Sp} {o : Oper} {d : Nat} {r : AV}
end
end Go.Proofs.Ytmocggibcniggaa.Kw
namespace Go.Proofs.Ytmocggibcniggaa.Kw
open Go Go.Shelf Go.RowKit Go.Lib Go.Sort Go.Proofs
/-! ### slices.SortFunc, by the shelf's contract -/
theorem grow_of {W W' : World} (hs : W.heap.size ≤ W'.heap.size) (hold : ∀ b, b < W.heap.size → W'.heap[b]? = W.heap[b]?) (h1 : W'.os = W.os) (h2 : W'.tape = W.tape) (h3 : W'.output = W.output) (hd : W.drawn ≤ W'.drawn) :
    ∃ q os', W' = Sort.grow (W.drewN q) os' := by
  refine ⟨W'.drawn - W.drawn, W'.heap.extract W.heap.size W'.heap.size, ?_⟩
  obtain ⟨hp, tp, dn, o, ou⟩ := W'
  simp only at *
  unfold Sort.grow World.drewN
  simp only [World.mk.injEq]
  refine ⟨?_, h2, by omega, h1, h3⟩
  apply Array.ext_getElem?
  intro i
  rw [Array.getElem?_append]
  split
  · rename_i h; exact hold i h
  · rename_i h
    rw [Array.getElem?_extract]
    have e : W.heap.size + (i - W.heap.size) = i := by omega
    by_cases hi : i < hp.size
    · rw [if_pos (by simp; omega), e]
    · rw [if_neg (by simp; omega), Array.getElem?_eq_none (by omega)]
section
variable {P : Program} {f g : FuncId} {α : Type} [Inhabited α] {enc : α → List Value} {sz : Nat} {cf : α → α → Int}
theorem cmpLays_of (A : α → AV) (hA : ∀ E w x, C E w (A x) (.agg (enc x).toArray)) (hc : ∀ x y, FnR P g [A x, A y] (fun r S => r = .r (.v (.int .i64 (cf x y))) ∧ S = [])) (blk off size : Nat) (w : World) : CmpLays P g #[] enc sz cf blk off size w := by
  intro m os dk _ x y
  generalize sortWorldK enc sz w blk off m dk os = W
  have h := hc x y W (fun _ => False) (E0 W) [.agg (enc x).toArray, .agg (enc y).toArray] (Sat.init W) (CL_cons' (hA _ _ x) (CL_cons' (hA _ _ y) CL_nil'))
  have e : #[.agg (enc x).toArray, .agg (enc y).toArray] ++ #[] = List.toArray [Value.agg (enc x).toArray, .agg (enc y).toArray] := rfl
  rw [e]
  refine h.mono fun en w' hh => ?_
  obtain ⟨u, r, H, S, E, rfl, ⟨rfl, rfl, rfl⟩, hcu, hsat, _⟩ := hh
  have hu := C_v hcu
  subst hu
  exact ⟨rfl, grow_of hsat.size (fun b hb => hsat.old b hb (fun h => h)) hsat.os hsat.tape hsat.output hsat.dr⟩
omit [Inhabited α] in
theorem flat_get (hk : ∀ x, (enc x).length = sz) (hpos : 0 < sz) : ∀ (xs : List α) (j : Nat), (xs.map enc).flatten[j]? = (xs[j / sz]?).bind fun x => (enc x)[j % sz]?
  | [], j => by simp
  | x :: xs, j => by
    rw [List.map_cons, List.flatten_cons, List.getElem?_append]
    by_cases h : j < (enc x).length
    · rw [if_pos h]
      rw [hk] at h
      rw [Nat.div_eq_of_lt h, Nat.mod_eq_of_lt h]
      rfl
    · rw [if_neg h, flat_get hk hpos xs, hk]
      rw [hk] at h
      have e1 : j / sz = (j - sz) / sz + 1 := Nat.div_eq_sub_div hpos (by omega)
      have e2 : j % sz = (j - sz) % sz := Nat.mod_eq_sub_mod (by omega)
      rw [e1, e2, List.getElem?_cons_succ]
omit [Inhabited α] in
theorem flat_lenO (hk : ∀ x, (enc x).length = sz) : ∀ (xs : List α), (xs.map enc).flatten.length = xs.length * sz
  | [] => by simp
  | x :: xs => by rw [List.map_cons, List.flatten_cons, List.length_append, flat_lenO hk xs, hk, List.length_cons, Nat.add_mul]; omega
theorem flatK_list (hk : ∀ x, (enc x).length = sz) (hpos : 0 < sz) (d : Array α) : (Sort.flatK enc sz d).toList = (d.toList.map enc).flatten := by
  apply List.ext_getElem?
  intro j
  rw [flat_get hk hpos, Array.getElem?_toList, Array.getElem?_toList]
  by_cases h : j < d.size * sz
  · have hq : j / sz < d.size := by
      rw [Nat.div_lt_iff_lt_mul hpos]; exact h
    have hr : j % sz < sz := Nat.mod_lt _ hpos
    have h1 : (Sort.flatK enc sz d)[j]? = some (Sort.flatK enc sz d)[j]! := by
      rw [Array.getElem?_eq_getElem (by simpa using h), getElem!_pos _ j (by simpa using h)]
    rw [h1, Sort.get_flatK _ _ _ j h, Array.getElem?_eq_getElem hq, getElem!_pos d _ hq]
    simp only [Option.bind_some]
    rw [List.getElem?_eq_getElem (by rw [hk]; exact hr), getElem!_pos _ (j % sz) (by rw [hk]; exact hr)]
  · rw [Array.getElem?_eq_none (by simp; omega)]
    have hq : d.size ≤ j / sz := by rw [Nat.le_div_iff_mul_le hpos]; omega
    rw [Array.getElem?_eq_none hq]
    rfl
omit [Inhabited α] in
theorem rows_dec {Y Z : Nat → Prop} {w : World} : ∀ {L : List (List RV)} {cs : List Value}, (∀ row ∈ L, ∀ vs, RL Y Z w row vs → ∃ x, enc x = vs) → Rows Y Z w sz L cs → ∃ zs : List (List RV × α), zs.map Prod.fst = L ∧ cs = ((zs.map Prod.snd).map enc).flatten ∧ ∀ z ∈ zs, z.1.length = sz ∧ RL Y Z w z.1 (enc z.2)
  | [], cs, _, h => by unfold Rows at h; subst h; exact ⟨[], rfl, rfl, fun z hz => by cases hz⟩
  | r :: L, cs, hd, h => by
    unfold Rows at h
    obtain ⟨a, b, rfl, h2, h3, h4⟩ := h
    obtain ⟨x, hx⟩ := hd r (by simp) a h3
    obtain ⟨zs, e1, e2, e3⟩ := rows_dec (fun row hr => hd row (by simp [hr])) h4
    refine ⟨(r, x) :: zs, by rw [List.map_cons, e1], by rw [e2]; simp [hx], fun z hz => ?_⟩
    rcases List.mem_cons.1 hz with rfl | hz
    · exact ⟨h2, by rw [hx]; exact h3⟩
    · exact e3 z hz
omit [Inhabited α] in
theorem rows_enc {Y Z : Nat → Prop} {w : World} : ∀ {zs : List (List RV × α)}, (∀ z ∈ zs, z.1.length = sz ∧ RL Y Z w z.1 (enc z.2)) → Rows Y Z w sz (zs.map Prod.fst) ((zs.map Prod.snd).map enc).flatten
  | [], _ => by unfold List.map Rows; rfl
  | z :: zs, h => by
    show Rows Y Z w sz (z.1 :: zs.map Prod.fst) (enc z.2 ++ ((zs.map Prod.snd).map enc).flatten)
    unfold Rows
    exact ⟨_, _, rfl, (h z (by simp)).1, (h z (by simp)).2, rows_enc (fun y hy => h y (by simp [hy]))⟩
theorem perm_map {β γ : Type} {F : β → γ} {l l2 : List γ} (h : l.Perm l2) : ∀ zs : List β, zs.map F = l2 → ∃ zs' : List β, zs'.map F = l ∧ zs'.Perm zs := by
  induction h with
  | nil => intro zs hz; exact ⟨zs, hz, List.Perm.refl _⟩
  | cons x _ ih =>
    intro zs hz
    cases zs with
    | nil => cases hz
    | cons z zs =>
      simp only [List.map_cons, List.cons.injEq] at hz
      obtain ⟨zs', h1, h2⟩ := ih zs hz.2
      exact ⟨z :: zs', by rw [List.map_cons, h1, hz.1], h2.cons z⟩
  | swap x y l =>
    intro zs hz
    match zs, hz with
    | a :: b :: zs, hz =>
      simp only [List.map_cons, List.cons.injEq] at hz
      refine ⟨b :: a :: zs, by simp only [List.map_cons]; rw [hz.1, hz.2.1, hz.2.2], List.Perm.swap _ _ _⟩
  | trans _ _ ih1 ih2 =>
    intro zs hz
    obtain ⟨z2, h1, h2⟩ := ih2 zs hz
    obtain ⟨z3, h3, h4⟩ := ih1 z2 h1
    exact ⟨z3, h3, h4.trans h2⟩
omit [Inhabited α] in
theorem sw_block {w : World} {b n : Nat} {F : Array Value} {os : Array Obj} {cur : Array Value} {e : TypeId} {fr : Nat × Nat} (hh : w.heap[b]? = some (.cells cur e fr)) :
    (Sort.grow (Sort.putRow id (Sort.ahead w n) b 0 F) os).heap[b]? = some (.cells (Sort.putCells id 0 F cur) e fr) := by
  have hb := (Array.getElem?_eq_some_iff.1 hh).1
  unfold Sort.grow Sort.putRow Sort.mapBlock Sort.ahead
  simp only
  rw [Array.getElem?_append, if_pos (by simpa using hb), Array.getElem?_modify, if_pos rfl, hh]
  rfl
omit [Inhabited α] in
theorem sw_other {w : World} {b n x : Nat} {F : Array Value} {os : Array Obj} (hx : x < w.heap.size) (hne : x ≠ b) :
    (Sort.grow (Sort.putRow id (Sort.ahead w n) b 0 F) os).heap[x]? = w.heap[x]? := by
  unfold Sort.grow Sort.putRow Sort.mapBlock Sort.ahead
  simp only
  rw [Array.getElem?_append, if_pos (by simpa using hx), Array.getElem?_modify, if_neg (fun h => hne h.symm)]
omit [Inhabited α] in
theorem put_take {F cur : Array Value} (h : F.size ≤ cur.size) : (Sort.putCells id 0 F cur).toList.take F.size = F.toList := by
  apply List.ext_getElem?
  intro j
  rw [List.getElem?_take]
  split
  · rename_i hj
    rw [Array.getElem?_toList, Array.getElem?_toList]
    unfold Sort.putCells
    rw [Array.getElem?_mapIdx, Array.getElem?_eq_getElem (show j < cur.size by omega)]
    simp only [Option.map_some, Nat.zero_le, Nat.zero_add, true_and, if_pos hj, Nat.sub_zero, id]
    rw [Array.getElem?_eq_getElem hj, getElem!_pos F j hj]
  · rw [Array.getElem?_toList, Array.getElem?_eq_none (by omega)]
/-- slices.SortFunc of an own slice that is not empty. -/
theorem sort_core {w0 w : World} {X : Org} {E : Env} {H : Hp} {S : Sp} {kn : Nat} {v : Value} {e : TypeId} (hk : ∀ x, (enc x).length = sz) (hpos : 0 < sz) (A : α → AV) (hA : ∀ E w x, C E w (A x) (.agg (enc x).toArray)) (hc : ∀ x y, FnR P g [A x, A y] (fun r S => r = .r (.v (.int .i64 (cf x y))) ∧ S = []))
    (hsort : ∀ (blk cap : Nat) (d : Array α) (w : World), CmpLays P g #[] enc sz cf blk 0 d.size w → HoldsK enc sz w blk 0 d → blk < w.heap.size → d.size < 4611686018427387904 →
      Calls P f #[.slice (some ⟨blk, 0, none⟩) d.size cap, .func (.func g) #[] #[]] w fun e w' => e = .returned (.tuple #[]) ∧ ∃ d' n os, PermIn 0 d.size d d' ∧ SortedIn (ltOf cf) 0 d.size d' ∧ w' = sortWorldK enc sz w blk 0 n d' os)
    {L : List (List RV)} (hdec : ∀ (Y Z : Nat → Prop) (w : World), ∀ row ∈ L, ∀ vs, RL Y Z w row vs → ∃ x, enc x = vs)
    (cfr : List RV → List RV → Int) (hcf : ∀ (Y Z : Nat → Prop) (w : World) (r1 r2 : List RV) (x1 x2 : α), r1 ∈ L → r2 ∈ L → RL Y Z w r1 (enc x1) → RL Y Z w r2 (enc x2) → cf x1 x2 = cfr r1 r2)
    (hL : L ≠ []) (hlen : L.length < 4611686018427387904) (hs : Sat w0 X E H S w) (hS : S[kn]? = some (some ⟨e, sz, L, false⟩)) (k1 : E.V[kn]? = some v) :
    Calls P f #[v, .func (.func g) #[] #[]] w fun en w' => en = .returned (.tuple #[]) ∧ ∃ (L' : List (List RV)) (fp fp' : List Nat), E.P[kn]? = some fp ∧ L'.Perm L ∧ (∀ (i j : Nat) (a b : List RV), i < j → L'[i]? = some a → L'[j]? = some b → ¬ cfr b a < 0) ∧ (∀ x, E.Z x → w'.heap[x]? = w.heap[x]?) ∧ Sat w0 X (E.setE kn v fp') H (S.set kn (some ⟨e, sz, L', false⟩)) w' := by
  obtain ⟨v', fp, k1', kp, ho⟩ := hs.sl kn _ hS
  rw [k1] at k1'
  cases k1'
  obtain ⟨cs, hown, hrows, hfp⟩ := (OwnE_flat rfl).1 ho
  simp only at hown hrows
  have hll : 0 < L.length := by
    rcases Nat.eq_zero_or_pos L.length with h | h
    · exact absurd (List.eq_nil_of_length_eq_zero h) hL
    · exact h
  rcases hown.2 with ⟨hc0, hl0⟩ | ⟨b, cap, cur, hvv, h0, hh, hn1, hn2, hcs, hct⟩
  · omega
  subst hvv
  obtain ⟨zs, z1, z2, z3⟩ := rows_dec (fun row hr vs h => hdec _ _ _ row hr vs h) hrows
  obtain ⟨xs, hxs⟩ : ∃ xs, xs = zs.map Prod.snd := ⟨_, rfl⟩
  have hxl : xs.length = L.length := by rw [hxs, ← z1]; simp
  have hbl : b < w.heap.size := (Array.getElem?_eq_some_iff.1 hh).1
  have hcurl : L.length * sz ≤ cur.size := by rw [hcs]; exact Nat.mul_le_mul_right _ hn1
  have hcells : ∀ j, j < L.length * sz → cur[j]? = (xs.map enc).flatten[j]? := fun j hj => by
    have : cs[j]? = cur[j]? := by rw [← hct, List.getElem?_take, if_pos hj, Array.getElem?_toList]
    rw [← this, z2, hxs]
  have hds : xs.toArray.size = L.length := by simpa using hxl
  have hH : HoldsK enc sz w b 0 xs.toArray := by
    intro j hj
    have hj' : j < L.length * sz := by simpa [hds] using hj
    have e1 : ((Sort.flatK enc sz xs.toArray)[j]?) = (xs.map enc).flatten[j]? := by rw [← Array.getElem?_toList, flatK_list hk hpos]
    have e2 : (Sort.flatK enc sz xs.toArray)[j]? = some (Sort.flatK enc sz xs.toArray)[j]! := by rw [Array.getElem?_eq_getElem hj, getElem!_pos _ j hj]
    refine ⟨?_, ?_⟩
    · simp only [World.cell?, hh, Nat.zero_add]
      simp only [Option.isSome_none, Bool.false_eq_true, if_false, id]
      rw [hcells j hj', ← e1, e2]
    · simp [World.frozen?, hh]
  show Calls P f #[.slice (some ⟨b, 0, none⟩) L.length cap, .func (.func g) #[] #[]] w _
  rw [show (#[.slice (some ⟨b, 0, none⟩) L.length cap, .func (.func g) #[] #[]] : Array Value) = #[.slice (some ⟨b, 0, none⟩) xs.toArray.size cap, .func (.func g) #[] #[]] by rw [hds]]
  refine (hsort b cap xs.toArray w (cmpLays_of A hA hc _ _ _ _) hH hbl (by rw [hds]; exact hlen)).mono fun en w' hh' => ?_
  obtain ⟨rfl, d', n, os, hperm, hsrt, rfl⟩ := hh'
  obtain ⟨hp1, _, hp2⟩ := hperm
  have hfull : ∀ (a : Array α), (a.extract 0 a.size).toList = a.toList := fun a => by simp
  have hp3 : d'.toList.Perm xs := by
    have e1 := hfull d'
    have e2 := hfull xs.toArray
    rw [hp1] at e1
    rw [e1, e2] at hp2
    exact hp2
  obtain ⟨zs', y1, y2⟩ := perm_map (F := Prod.snd) hp3 zs hxs.symm
  have z3' : ∀ z ∈ zs', z.1.length = sz ∧ RL E.Y E.Z w z.1 (enc z.2) := fun z hz => z3 z (y2.mem_iff.1 hz)
  have hpermL : (zs'.map Prod.fst).Perm L := by rw [← z1]; exact y2.map _
  have hl' : (zs'.map Prod.fst).length = L.length := hpermL.length_eq
  generalize hW : sortWorldK enc sz w b 0 n d' os = w'
  have hW' : w' = Sort.grow (Sort.putRow id (Sort.ahead w n) b 0 (Sort.flatK enc sz d')) os := hW.symm
  have hFs : (Sort.flatK enc sz d').size = L.length * sz := by rw [Sort.size_flatK, hp1, hds]
  have hblk : w'.heap[b]? = some (.cells (Sort.putCells id 0 (Sort.flatK enc sz d') cur) e (0, 0)) := by rw [hW']; exact sw_block hh
  have hoth : ∀ x, x < w.heap.size → x ≠ b → w'.heap[x]? = w.heap[x]? := fun x hx hne => by rw [hW']; exact sw_other hx hne
  have hbfp : b ∈ fp := by rw [hfp]; simp [Value.ownBlock]
  have hchg : Chg w w' (fun x => x ∈ fp) := by
    refine ⟨?_, fun x hx hne => hoth x hx (fun e => hne (e ▸ hbfp)), ?_, ?_, ?_, ?_⟩
    · rw [hW']; unfold Sort.grow Sort.putRow Sort.mapBlock Sort.ahead; simp
    · rw [hW']; rfl
    · rw [hW']; rfl
    · rw [hW']; rfl
    · rw [hW']; unfold Sort.grow Sort.putRow Sort.mapBlock Sort.ahead; exact Nat.le_add_right _ _
  have hzk : ∀ x, E.Z x → w'.heap[x]? = w.heap[x]? := fun x hx => by
    refine hoth x (hs.Z x hx) (fun e => ?_)
    subst e
    exact (hs.bP hS kp hbfp).2.2 hx
  have hrows' : Rows E.Y E.Z w' sz (zs'.map Prod.fst) ((zs'.map Prod.snd).map enc).flatten := Rows_mono (fun _ h => h) (fun _ h => h) hs.YZ hzk (rows_enc z3')
  have hownE : OwnE E.Y E.Z w' ⟨e, sz, zs'.map Prod.fst, false⟩ (.slice (some ⟨b, 0, none⟩) L.length cap) (Value.ownBlock (.slice (some ⟨b, 0, none⟩) L.length cap)).toList := by
    refine (OwnE_flat rfl).2 ⟨_, ⟨?_, .inr ⟨b, cap, _, by rw [hl'], h0, hblk, by rw [hl']; exact hn1, hn2, ?_, ?_⟩⟩, hrows', rfl⟩
    · rw [y1, flat_lenO hk]
      simp [hp1, hds, hl']
    · simp [Sort.putCells, hcs]
    · have := put_take (F := Sort.flatK enc sz d') (cur := cur) (by rw [hFs]; exact hcurl)
      rw [hFs] at this
      simp only [hl', y1]
      rw [this, flatK_list hk hpos]
  have hnd : (Value.ownBlock (.slice (some ⟨b, 0, none⟩) L.length cap)).toList.Nodup := ob_nodup _
  have hsat := hs.updV hS k1 kp hchg (fun x hx => .inl (by rw [hfp]; exact hx)) hnd hownE
  refine ⟨rfl, zs'.map Prod.fst, fp, _, kp, hpermL, ?_, hzk, hsat⟩
  intro i j ra rb hij hra hrb
  rw [List.getElem?_map] at hra hrb
  cases hzi : zs'[i]? with
  | none => rw [hzi] at hra; cases hra
  | some zi =>
    cases hzj : zs'[j]? with
    | none => rw [hzj] at hrb; cases hrb
    | some zj =>
      rw [hzi] at hra
      rw [hzj] at hrb
      simp only [Option.map_some, Option.some.injEq] at hra hrb
      subst hra
      subst hrb
      have m1 := z3' zi (List.mem_of_getElem? hzi)
      have m2 := z3' zj (List.mem_of_getElem? hzj)
      have n1 : zi.1 ∈ L := hpermL.mem_iff.1 (List.mem_map.2 ⟨zi, List.mem_of_getElem? hzi, rfl⟩)
      have n2 : zj.1 ∈ L := hpermL.mem_iff.1 (List.mem_map.2 ⟨zj, List.mem_of_getElem? hzj, rfl⟩)
      rw [← hcf _ _ _ zj.1 zi.1 zj.2 zi.2 n2 n1 m2.2 m1.2]
      have g1 : d'.toList[i]? = some zi.2 := by rw [← y1, List.getElem?_map, hzi]; rfl
      have g2 : d'.toList[j]? = some zj.2 := by rw [← y1, List.getElem?_map, hzj]; rfl
      rw [Array.getElem?_toList] at g1 g2
      have hjl := (Array.getElem?_eq_some_iff.1 g2).1
      have := hsrt i j (Nat.zero_le _) hij (by rw [← hp1]; exact hjl)
      rw [getElem!_pos d' j hjl, getElem!_pos d' i (by omega), (Array.getElem?_eq_some_iff.1 g1).2, (Array.getElem?_eq_some_iff.1 g2).2] at this
      unfold ltOf at this
      exact of_decide_eq_false this
variable {c : Ctx} {ops : Array Oper} {kz : Kz} {q st : Option St} {i : Nat} {sch : List (Nat × Md)} {F : Fr} {H : Hp} {S : Sp} {o : Oper}
/-- THE CALL OF slices.SortFunc: the slice stays where it is. -/
theorem r_sort {cl : Call} {fn : Func} {dd : Option Nat} {kn : Nat} {e : TypeId} (hk : ∀ x, (enc x).length = sz) (hpos : 0 < sz) (A : α → AV) (hA : ∀ E w x, C E w (A x) (.agg (enc x).toArray)) (hc : ∀ x y, FnR c.P g [A x, A y] (fun r S => r = .r (.v (.int .i64 (cf x y))) ∧ S = []))
    (hsort : ∀ (blk cap : Nat) (d : Array α) (w : World), CmpLays c.P g #[] enc sz cf blk 0 d.size w → HoldsK enc sz w blk 0 d → blk < w.heap.size → d.size < 4611686018427387904 →
      Calls c.P f #[.slice (some ⟨blk, 0, none⟩) d.size cap, .func (.func g) #[] #[]] w fun e w' => e = .returned (.tuple #[]) ∧ ∃ d' n os, PermIn 0 d.size d d' ∧ SortedIn (ltOf cf) 0 d.size d' ∧ w' = sortWorldK enc sz w blk 0 n d' os)
    {L : List (List RV)} (hdec : ∀ (Y Z : Nat → Prop) (w : World), ∀ row ∈ L, ∀ vs, RL Y Z w row vs → ∃ x, enc x = vs)
    (cfr : List RV → List RV → Int) (hcf : ∀ (Y Z : Nat → Prop) (w : World) (r1 r2 : List RV) (x1 x2 : α), r1 ∈ L → r2 ∈ L → RL Y Z w r1 (enc x1) → RL Y Z w r2 (enc x2) → cf x1 x2 = cfr r1 r2)
    (hL : L ≠ []) (hlen : L.length < 4611686018427387904) (hi : ops[i]? = some o) (hop : o.op = .call cl) (hd : o.dst = dd) (hn : dOk dd c.n = true) (hg : gOk ops F o.guard = some true)
    (ht : target F cl = some (f, [.sl kn, .fn g []])) (hf : c.P.funcs[f]? = some fn) (hnm : (fn.name == "runtime.NumGoroutine") = false) (hbd : fn.body.isSome = true) (hS : S[kn]? = some (some ⟨e, sz, L, false⟩))
    (h : ∀ L' : List (List RV), L'.Perm L → (∀ (i j : Nat) (a b : List RV), i < j → L'[i]? = some a → L'[j]? = some b → ¬ cfr b a < 0) → GR c ops kz q none sch (putD dd (.tup []) F) H (S.set kn (some ⟨e, sz, L', false⟩))) : GR c ops kz q st ((i, .l) :: sch) F H S := by
  intro E a w h1 h2 h3 h4 h5
  obtain ⟨us, k1, k2⟩ := run_call (P := c.P) hop h3 ht hf hnm hbd
  unfold CL at k1
  obtain ⟨v, us1, rfl, hv, k1⟩ := k1
  unfold CL at k1
  obtain ⟨fv, us2, rfl, hfv, k1⟩ := k1
  unfold CL at k1
  subst k1
  unfold C at hfv
  obtain ⟨us3, rfl, h3'⟩ := hfv
  unfold CL at h3'
  subst h3'
  unfold C at hv
  refine seq_call hi (gOk_ok (o := o) h3 hg) k2 ((sort_core hk hpos A hA hc hsort hdec cfr hcf hL hlen h4 hS hv.1).mono fun en w' hh => ?_) (.inr rfl)
  obtain ⟨rfl, L', fp, fp', kp, m1, m2, hzz, hsat⟩ := hh
  refine ⟨_, rfl, .inr rfl, ?_⟩
  rw [hd]
  have hkeep := keepsPO h4.YZ hv.1 fp'
  have hF : Fits (E.setE kn v fp') w' F a := ⟨fun d x hx => by
    obtain ⟨u', q1, q2⟩ := h3.get d x hx
    exact ⟨u', q1, hkeep w' x u' rfl (C_mono h4.YZ (Env.le_refl E) hzz x u' q2)⟩⟩
  refine h L' m1 m2 _ _ w' ?_ ?_ (hF.putD (by unfold C; exact ⟨[], rfl, by unfold CL; rfl⟩) (by rw [h1]; exact hn)) hsat (fun s hs => by cases hs)
  · rw [(put_size _ _ _).1]; exact h1
  · rw [(put_size _ _ _).2]; exact h2
end
end Go.Proofs.Ytmocggibcniggaa.Kw
