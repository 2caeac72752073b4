/- The framework of this seat's proofs, part 4: a walk through a function over a symbolic state, proved sound. No condition. -/
import Derived.Test.YtpkkaadflbppcaaK3
import Derived.Shelf.SlSortCmp.InsertionK
set_option linter.unusedSimpArgs false
set_option linter.unusedVariables false
namespace Go.Proofs.Ytpkkaadflbppcaa.Kw
open Go Go.Shelf Go.RowKit Go.Lib Go.Sort Go.Proofs
/-! ### slices.SortFunc, by the shelf's contract -/
theorem grow_of {W W' : World} (hs : W.heap.size ≤ W'.heap.size) (hold : ∀ b, b < W.heap.size → W'.heap[b]? = W.heap[b]?) (h1 : W'.os = W.os) (h2 : W'.tape = W.tape) (h3 : W'.output = W.output) (hd : W.drawn ≤ W'.drawn) :
    ∃ q os', W' = Sort.grow (W.drewN q) os' := by
  refine ⟨W'.drawn - W.drawn, W'.heap.extract W.heap.size W'.heap.size, ?_⟩
  obtain ⟨hp, tp, dn, o, ou⟩ := W'
  simp only at *
  unfold Sort.grow World.drewN
  simp only [World.mk.injEq]
  refine ⟨?_, h2, by omega, h1, h3⟩
  apply Array.ext_getElem?
  intro i
  rw [Array.getElem?_append]
  split
  · rename_i h; exact hold i h
  · rename_i h
    rw [Array.getElem?_extract]
    have e : W.heap.size + (i - W.heap.size) = i := by omega
    by_cases hi : i < hp.size
    · rw [if_pos (by simp; omega), e]
    · rw [if_neg (by simp; omega), Array.getElem?_eq_none (by omega)]
section
variable {P : Program} {f g : FuncId} {α : Type} [Inhabited α] {enc : α → List Value} {sz : Nat} {cf : α → α → Int}
theorem cmpLays_of (A : α → AV) (hA : ∀ E w x, C E w (A x) (.agg (enc x).toArray)) (hc : ∀ x y, FnR P g [A x, A y] (fun r S => r = .r (.v (.int .i64 (cf x y))) ∧ S = [])) (blk off size : Nat) (w : World) : CmpLays P g #[] enc sz cf blk off size w := by
  intro m os dk _ x y
  generalize sortWorldK enc sz w blk off m dk os = W
  have h := hc x y W (fun _ => False) (E0 W) [.agg (enc x).toArray, .agg (enc y).toArray] (Sat.init W) (CL_cons' (hA _ _ x) (CL_cons' (hA _ _ y) CL_nil'))
  have e : #[.agg (enc x).toArray, .agg (enc y).toArray] ++ #[] = List.toArray [Value.agg (enc x).toArray, .agg (enc y).toArray] := rfl
  rw [e]
  refine h.mono fun en w' hh => ?_
  obtain ⟨u, r, H, S, E, rfl, ⟨rfl, rfl, rfl⟩, hcu, hsat, _⟩ := hh
  have hu := C_v hcu
  subst hu
  exact ⟨rfl, grow_of hsat.size (fun b hb => hsat.old b hb (fun h => h)) hsat.os hsat.tape hsat.output hsat.dr⟩
omit [Inhabited α] in
theorem flat_get (hk : ∀ x, (enc x).length = sz) (hpos : 0 < sz) : ∀ (xs : List α) (j : Nat), (xs.map enc).flatten[j]? = (xs[j / sz]?).bind fun x => (enc x)[j % sz]?
  | [], j => by simp
  | x :: xs, j => by
    rw [List.map_cons, List.flatten_cons, List.getElem?_append]
    by_cases h : j < (enc x).length
    · rw [if_pos h]
      rw [hk] at h
      rw [Nat.div_eq_of_lt h, Nat.mod_eq_of_lt h]
      rfl
    · rw [if_neg h, flat_get hk hpos xs, hk]
      rw [hk] at h
      have e1 : j / sz = (j - sz) / sz + 1 := Nat.div_eq_sub_div hpos (by omega)
      have e2 : j % sz = (j - sz) % sz := Nat.mod_eq_sub_mod (by omega)
      rw [e1, e2, List.getElem?_cons_succ]
omit [Inhabited α] in
theorem flat_len (hk : ∀ x, (enc x).length = sz) : ∀ (xs : List α), (xs.map enc).flatten.length = xs.length * sz
  | [] => by simp
  | x :: xs => by rw [List.map_cons, List.flatten_cons, List.length_append, flat_len hk xs, hk, List.length_cons, Nat.add_mul]; omega
theorem flatK_list (hk : ∀ x, (enc x).length = sz) (hpos : 0 < sz) (d : Array α) : (Sort.flatK enc sz d).toList = (d.toList.map enc).flatten := by
  apply List.ext_getElem?
  intro j
  rw [flat_get hk hpos, Array.getElem?_toList, Array.getElem?_toList]
  by_cases h : j < d.size * sz
  · have hq : j / sz < d.size := by
      rw [Nat.div_lt_iff_lt_mul hpos]; exact h
    have hr : j % sz < sz := Nat.mod_lt _ hpos
    have h1 : (Sort.flatK enc sz d)[j]? = some (Sort.flatK enc sz d)[j]! := by
      rw [Array.getElem?_eq_getElem (by simpa using h), getElem!_pos _ j (by simpa using h)]
    rw [h1, Sort.get_flatK _ _ _ j h, Array.getElem?_eq_getElem hq, getElem!_pos d _ hq]
    simp only [Option.bind_some]
    rw [List.getElem?_eq_getElem (by rw [hk]; exact hr), getElem!_pos _ (j % sz) (by rw [hk]; exact hr)]
  · rw [Array.getElem?_eq_none (by simp; omega)]
    have hq : d.size ≤ j / sz := by rw [Nat.le_div_iff_mul_le hpos]; omega
    rw [Array.getElem?_eq_none hq]
    rfl
omit [Inhabited α] in
theorem rows_dec {Y Z : Nat → Prop} {w : World} : ∀ {L : List (List RV)} {cs : List Value}, (∀ row ∈ L, ∀ vs, RL Y Z w row vs → ∃ x, enc x = vs) → Rows Y Z w sz L cs → ∃ zs : List (List RV × α), zs.map Prod.fst = L ∧ cs = ((zs.map Prod.snd).map enc).flatten ∧ ∀ z ∈ zs, z.1.length = sz ∧ RL Y Z w z.1 (enc z.2)
  | [], cs, _, h => by unfold Rows at h; subst h; exact ⟨[], rfl, rfl, fun z hz => by cases hz⟩
  | r :: L, cs, hd, h => by
    unfold Rows at h
    obtain ⟨a, b, rfl, h2, h3, h4⟩ := h
    obtain ⟨x, hx⟩ := hd r (by simp) a h3
    obtain ⟨zs, e1, e2, e3⟩ := rows_dec (fun row hr => hd row (by simp [hr])) h4
    refine ⟨(r, x) :: zs, by rw [List.map_cons, e1], by rw [e2]; simp [hx], fun z hz => ?_⟩
    rcases List.mem_cons.1 hz with rfl | hz
    · exact ⟨h2, by rw [hx]; exact h3⟩
    · exact e3 z hz
omit [Inhabited α] in
theorem rows_enc {Y Z : Nat → Prop} {w : World} : ∀ {zs : List (List RV × α)}, (∀ z ∈ zs, z.1.length = sz ∧ RL Y Z w z.1 (enc z.2)) → Rows Y Z w sz (zs.map Prod.fst) ((zs.map Prod.snd).map enc).flatten
  | [], _ => by unfold List.map Rows; rfl
  | z :: zs, h => by
    show Rows Y Z w sz (z.1 :: zs.map Prod.fst) (enc z.2 ++ ((zs.map Prod.snd).map enc).flatten)
    unfold Rows
    exact ⟨_, _, rfl, (h z (by simp)).1, (h z (by simp)).2, rows_enc (fun y hy => h y (by simp [hy]))⟩
theorem perm_map {β γ : Type} {F : β → γ} {l l2 : List γ} (h : l.Perm l2) : ∀ zs : List β, zs.map F = l2 → ∃ zs' : List β, zs'.map F = l ∧ zs'.Perm zs := by
  induction h with
  | nil => intro zs hz; exact ⟨zs, hz, List.Perm.refl _⟩
  | cons x _ ih =>
    intro zs hz
    cases zs with
    | nil => cases hz
    | cons z zs =>
      simp only [List.map_cons, List.cons.injEq] at hz
      obtain ⟨zs', h1, h2⟩ := ih zs hz.2
      exact ⟨z :: zs', by rw [List.map_cons, h1, hz.1], h2.cons z⟩
  | swap x y l =>
    intro zs hz
    match zs, hz with
    | a :: b :: zs, hz =>
      simp only [List.map_cons, List.cons.injEq] at hz
      refine ⟨b :: a :: zs, by simp only [List.map_cons]; rw [hz.1, hz.2.1, hz.2.2], List.Perm.swap _ _ _⟩
  | trans _ _ ih1 ih2 =>
    intro zs hz
    obtain ⟨z2, h1, h2⟩ := ih2 zs hz
    obtain ⟨z3, h3, h4⟩ := ih1 z2 h1
    exact ⟨z3, h3, h4.trans h2⟩
omit [Inhabited α] in
theorem sw_block {w : World} {b n : Nat} {F : Array Value} {os : Array Obj} {cur : Array Value} {e : TypeId} {fr : Nat × Nat} (hh : w.heap[b]? = some (.cells cur e fr)) :
    (Sort.grow (Sort.putRow id (Sort.ahead w n) b 0 F) os).heap[b]? = some (.cells (Sort.putCells id 0 F cur) e fr) := by
  have hb := (Array.getElem?_eq_some_iff.1 hh).1
  unfold Sort.grow Sort.putRow Sort.mapBlock Sort.ahead
  simp only
  rw [Array.getElem?_append, if_pos (by simpa using hb), Array.getElem?_modify, if_pos rfl, hh]
  rfl
omit [Inhabited α] in
theorem sw_other {w : World} {b n x : Nat} {F : Array Value} {os : Array Obj} (hx : x < w.heap.size) (hne : x ≠ b) :
    (Sort.grow (Sort.putRow id (Sort.ahead w n) b 0 F) os).heap[x]? = w.heap[x]? := by
  unfold Sort.grow Sort.putRow Sort.mapBlock Sort.ahead
  simp only
  rw [Array.getElem?_append, if_pos (by simpa using hx), Array.getElem?_modify, if_neg (fun h => hne h.symm)]
omit [Inhabited α] in
theorem put_take {F cur : Array Value} (h : F.size ≤ cur.size) : (Sort.putCells id 0 F cur).toList.take F.size = F.toList := by
  apply List.ext_getElem?
  intro j
  rw [List.getElem?_take]
  split
  · rename_i hj
    rw [Array.getElem?_toList, Array.getElem?_toList]
    unfold Sort.putCells
    rw [Array.getElem?_mapIdx, Array.getElem?_eq_getElem (show j < cur.size by omega)]
    simp only [Option.map_some, Nat.zero_le, Nat.zero_add, true_and, if_pos hj, Nat.sub_zero, id]
    rw [Array.getElem?_eq_getElem hj, getElem!_pos F j hj]
  · rw [Array.getElem?_toList, Array.getElem?_eq_none (by omega)]
/-- slices.SortFunc of an own slice that is not empty. -/
theorem sort_core {w0 w : World} {X : Org} {E : Env} {H : Hp} {S : Sp} {kn : Nat} {v : Value} {e : TypeId} (hk : ∀ x, (enc x).length = sz) (hpos : 0 < sz) (A : α → AV) (hA : ∀ E w x, C E w (A x) (.agg (enc x).toArray)) (hc : ∀ x y, FnR P g [A x, A y] (fun r S => r = .r (.v (.int .i64 (cf x y))) ∧ S = []))
    (hsort : ∀ (blk cap : Nat) (d : Array α) (w : World), CmpLays P g #[] enc sz cf blk 0 d.size w → HoldsK enc sz w blk 0 d → blk < w.heap.size → d.size < 4611686018427387904 →
      Calls P f #[.slice (some ⟨blk, 0, none⟩) d.size cap, .func (.func g) #[] #[]] w fun e w' => e = .returned (.tuple #[]) ∧ ∃ d' n os, PermIn 0 d.size d d' ∧ SortedIn (ltOf cf) 0 d.size d' ∧ w' = sortWorldK enc sz w blk 0 n d' os)
    {L : List (List RV)} (hdec : ∀ (Y Z : Nat → Prop) (w : World), ∀ row ∈ L, ∀ vs, RL Y Z w row vs → ∃ x, enc x = vs)
    (cfr : List RV → List RV → Int) (hcf : ∀ (Y Z : Nat → Prop) (w : World) (r1 r2 : List RV) (x1 x2 : α), r1 ∈ L → r2 ∈ L → RL Y Z w r1 (enc x1) → RL Y Z w r2 (enc x2) → cf x1 x2 = cfr r1 r2)
    (hL : L ≠ []) (hlen : L.length < 4611686018427387904) (hs : Sat w0 X E H S w) (hS : S[kn]? = some (some ⟨e, sz, L, false⟩)) (k1 : E.V[kn]? = some v) :
    Calls P f #[v, .func (.func g) #[] #[]] w fun en w' => en = .returned (.tuple #[]) ∧ ∃ (L' : List (List RV)) (fp fp' : List Nat), E.P[kn]? = some fp ∧ L'.Perm L ∧ (∀ (i j : Nat) (a b : List RV), i < j → L'[i]? = some a → L'[j]? = some b → ¬ cfr b a < 0) ∧ (∀ x, E.Z x → w'.heap[x]? = w.heap[x]?) ∧ Sat w0 X (E.setE kn v fp') H (S.set kn (some ⟨e, sz, L', false⟩)) w' := by
  obtain ⟨v', fp, k1', kp, ho⟩ := hs.sl kn _ hS
  rw [k1] at k1'
  cases k1'
  obtain ⟨cs, hown, hrows, hfp⟩ := (OwnE_flat rfl).1 ho
  simp only at hown hrows
  have hll : 0 < L.length := by
    rcases Nat.eq_zero_or_pos L.length with h | h
    · exact absurd (List.eq_nil_of_length_eq_zero h) hL
    · exact h
  rcases hown.2 with ⟨hc0, hl0⟩ | ⟨b, cap, cur, hvv, h0, hh, hn1, hn2, hcs, hct⟩
  · omega
  subst hvv
  obtain ⟨zs, z1, z2, z3⟩ := rows_dec (fun row hr vs h => hdec _ _ _ row hr vs h) hrows
  obtain ⟨xs, hxs⟩ : ∃ xs, xs = zs.map Prod.snd := ⟨_, rfl⟩
  have hxl : xs.length = L.length := by rw [hxs, ← z1]; simp
  have hbl : b < w.heap.size := (Array.getElem?_eq_some_iff.1 hh).1
  have hcurl : L.length * sz ≤ cur.size := by rw [hcs]; exact Nat.mul_le_mul_right _ hn1
  have hcells : ∀ j, j < L.length * sz → cur[j]? = (xs.map enc).flatten[j]? := fun j hj => by
    have : cs[j]? = cur[j]? := by rw [← hct, List.getElem?_take, if_pos hj, Array.getElem?_toList]
    rw [← this, z2, hxs]
  have hds : xs.toArray.size = L.length := by simpa using hxl
  have hH : HoldsK enc sz w b 0 xs.toArray := by
    intro j hj
    have hj' : j < L.length * sz := by simpa [hds] using hj
    have e1 : ((Sort.flatK enc sz xs.toArray)[j]?) = (xs.map enc).flatten[j]? := by rw [← Array.getElem?_toList, flatK_list hk hpos]
    have e2 : (Sort.flatK enc sz xs.toArray)[j]? = some (Sort.flatK enc sz xs.toArray)[j]! := by rw [Array.getElem?_eq_getElem hj, getElem!_pos _ j hj]
    refine ⟨?_, ?_⟩
    · simp only [World.cell?, hh, Nat.zero_add]
      simp only [Option.isSome_none, Bool.false_eq_true, if_false, id]
      rw [hcells j hj', ← e1, e2]
    · simp [World.frozen?, hh]
  show Calls P f #[.slice (some ⟨b, 0, none⟩) L.length cap, .func (.func g) #[] #[]] w _
  rw [show (#[.slice (some ⟨b, 0, none⟩) L.length cap, .func (.func g) #[] #[]] : Array Value) = #[.slice (some ⟨b, 0, none⟩) xs.toArray.size cap, .func (.func g) #[] #[]] by rw [hds]]
  refine (hsort b cap xs.toArray w (cmpLays_of A hA hc _ _ _ _) hH hbl (by rw [hds]; exact hlen)).mono fun en w' hh' => ?_
  obtain ⟨rfl, d', n, os, hperm, hsrt, rfl⟩ := hh'
  obtain ⟨hp1, _, hp2⟩ := hperm
  have hfull : ∀ (a : Array α), (a.extract 0 a.size).toList = a.toList := fun a => by simp
  have hp3 : d'.toList.Perm xs := by
    have e1 := hfull d'
    have e2 := hfull xs.toArray
    rw [hp1] at e1
    rw [e1, e2] at hp2
    exact hp2
  obtain ⟨zs', y1, y2⟩ := perm_map (F := Prod.snd) hp3 zs hxs.symm
  have z3' : ∀ z ∈ zs', z.1.length = sz ∧ RL E.Y E.Z w z.1 (enc z.2) := fun z hz => z3 z (y2.mem_iff.1 hz)
  have hpermL : (zs'.map Prod.fst).Perm L := by rw [← z1]; exact y2.map _
  have hl' : (zs'.map Prod.fst).length = L.length := hpermL.length_eq
  generalize hW : sortWorldK enc sz w b 0 n d' os = w'
  have hW' : w' = Sort.grow (Sort.putRow id (Sort.ahead w n) b 0 (Sort.flatK enc sz d')) os := hW.symm
  have hFs : (Sort.flatK enc sz d').size = L.length * sz := by rw [Sort.size_flatK, hp1, hds]
  have hblk : w'.heap[b]? = some (.cells (Sort.putCells id 0 (Sort.flatK enc sz d') cur) e (0, 0)) := by rw [hW']; exact sw_block hh
  have hoth : ∀ x, x < w.heap.size → x ≠ b → w'.heap[x]? = w.heap[x]? := fun x hx hne => by rw [hW']; exact sw_other hx hne
  have hbfp : b ∈ fp := by rw [hfp]; simp [Value.ownBlock]
  have hchg : Chg w w' (fun x => x ∈ fp) := by
    refine ⟨?_, fun x hx hne => hoth x hx (fun e => hne (e ▸ hbfp)), ?_, ?_, ?_, ?_⟩
    · rw [hW']; unfold Sort.grow Sort.putRow Sort.mapBlock Sort.ahead; simp
    · rw [hW']; rfl
    · rw [hW']; rfl
    · rw [hW']; rfl
    · rw [hW']; unfold Sort.grow Sort.putRow Sort.mapBlock Sort.ahead; exact Nat.le_add_right _ _
  have hzk : ∀ x, E.Z x → w'.heap[x]? = w.heap[x]? := fun x hx => by
    refine hoth x (hs.Z x hx) (fun e => ?_)
    subst e
    exact (hs.bP hS kp hbfp).2.2 hx
  have hrows' : Rows E.Y E.Z w' sz (zs'.map Prod.fst) ((zs'.map Prod.snd).map enc).flatten := Rows_mono (fun _ h => h) (fun _ h => h) hs.YZ hzk (rows_enc z3')
  have hownE : OwnE E.Y E.Z w' ⟨e, sz, zs'.map Prod.fst, false⟩ (.slice (some ⟨b, 0, none⟩) L.length cap) (Value.ownBlock (.slice (some ⟨b, 0, none⟩) L.length cap)).toList := by
    refine (OwnE_flat rfl).2 ⟨_, ⟨?_, .inr ⟨b, cap, _, by rw [hl'], h0, hblk, by rw [hl']; exact hn1, hn2, ?_, ?_⟩⟩, hrows', rfl⟩
    · rw [y1, flat_len hk]
      simp [hp1, hds, hl']
    · simp [Sort.putCells, hcs]
    · have := put_take (F := Sort.flatK enc sz d') (cur := cur) (by rw [hFs]; exact hcurl)
      rw [hFs] at this
      simp only [hl', y1]
      rw [this, flatK_list hk hpos]
  have hnd : (Value.ownBlock (.slice (some ⟨b, 0, none⟩) L.length cap)).toList.Nodup := ob_nodup _
  have hsat := hs.updV hS k1 kp hchg (fun x hx => .inl (by rw [hfp]; exact hx)) hnd hownE
  refine ⟨rfl, zs'.map Prod.fst, fp, _, kp, hpermL, ?_, hzk, hsat⟩
  intro i j ra rb hij hra hrb
  rw [List.getElem?_map] at hra hrb
  cases hzi : zs'[i]? with
  | none => rw [hzi] at hra; cases hra
  | some zi =>
    cases hzj : zs'[j]? with
    | none => rw [hzj] at hrb; cases hrb
    | some zj =>
      rw [hzi] at hra
      rw [hzj] at hrb
      simp only [Option.map_some, Option.some.injEq] at hra hrb
      subst hra
      subst hrb
      have m1 := z3' zi (List.mem_of_getElem? hzi)
      have m2 := z3' zj (List.mem_of_getElem? hzj)
      have n1 : zi.1 ∈ L := hpermL.mem_iff.1 (List.mem_map.2 ⟨zi, List.mem_of_getElem? hzi, rfl⟩)
      have n2 : zj.1 ∈ L := hpermL.mem_iff.1 (List.mem_map.2 ⟨zj, List.mem_of_getElem? hzj, rfl⟩)
      rw [← hcf _ _ _ zj.1 zi.1 zj.2 zi.2 n2 n1 m2.2 m1.2]
      have g1 : d'.toList[i]? = some zi.2 := by rw [← y1, List.getElem?_map, hzi]; rfl
      have g2 : d'.toList[j]? = some zj.2 := by rw [← y1, List.getElem?_map, hzj]; rfl
      rw [Array.getElem?_toList] at g1 g2
      have hjl := (Array.getElem?_eq_some_iff.1 g2).1
      have := hsrt i j (Nat.zero_le _) hij (by rw [← hp1]; exact hjl)
      rw [getElem!_pos d' j hjl, getElem!_pos d' i (by omega), (Array.getElem?_eq_some_iff.1 g1).2, (Array.getElem?_eq_some_iff.1 g2).2] at this
      unfold ltOf at this
      exact of_decide_eq_false this
variable {c : Ctx} {ops : Array Oper} {kz : Kz} {q st : Option St} {i : Nat} {sch : List (Nat × Md)} {F : Fr} {H : Hp} {S : Sp} {o : Oper}
/-- THE CALL OF slices.SortFunc: the slice stays where it is. -/
theorem r_sort {cl : Call} {fn : Func} {dd : Option Nat} {kn : Nat} {e : TypeId} (hk : ∀ x, (enc x).length = sz) (hpos : 0 < sz) (A : α → AV) (hA : ∀ E w x, C E w (A x) (.agg (enc x).toArray)) (hc : ∀ x y, FnR c.P g [A x, A y] (fun r S => r = .r (.v (.int .i64 (cf x y))) ∧ S = []))
    (hsort : ∀ (blk cap : Nat) (d : Array α) (w : World), CmpLays c.P g #[] enc sz cf blk 0 d.size w → HoldsK enc sz w blk 0 d → blk < w.heap.size → d.size < 4611686018427387904 →
      Calls c.P f #[.slice (some ⟨blk, 0, none⟩) d.size cap, .func (.func g) #[] #[]] w fun e w' => e = .returned (.tuple #[]) ∧ ∃ d' n os, PermIn 0 d.size d d' ∧ SortedIn (ltOf cf) 0 d.size d' ∧ w' = sortWorldK enc sz w blk 0 n d' os)
    {L : List (List RV)} (hdec : ∀ (Y Z : Nat → Prop) (w : World), ∀ row ∈ L, ∀ vs, RL Y Z w row vs → ∃ x, enc x = vs)
    (cfr : List RV → List RV → Int) (hcf : ∀ (Y Z : Nat → Prop) (w : World) (r1 r2 : List RV) (x1 x2 : α), r1 ∈ L → r2 ∈ L → RL Y Z w r1 (enc x1) → RL Y Z w r2 (enc x2) → cf x1 x2 = cfr r1 r2)
    (hL : L ≠ []) (hlen : L.length < 4611686018427387904) (hi : ops[i]? = some o) (hop : o.op = .call cl) (hd : o.dst = dd) (hn : dOk dd c.n = true) (hg : gOk ops F o.guard = some true)
    (ht : target F cl = some (f, [.sl kn, .fn g []])) (hf : c.P.funcs[f]? = some fn) (hnm : (fn.name == "runtime.NumGoroutine") = false) (hbd : fn.body.isSome = true) (hS : S[kn]? = some (some ⟨e, sz, L, false⟩))
    (h : ∀ L' : List (List RV), L'.Perm L → (∀ (i j : Nat) (a b : List RV), i < j → L'[i]? = some a → L'[j]? = some b → ¬ cfr b a < 0) → GR c ops kz q none sch (putD dd (.tup []) F) H (S.set kn (some ⟨e, sz, L', false⟩))) : GR c ops kz q st ((i, .l) :: sch) F H S := by
  intro E a w h1 h2 h3 h4 h5
  obtain ⟨us, k1, k2⟩ := run_call (P := c.P) hop h3 ht hf hnm hbd
  unfold CL at k1
  obtain ⟨v, us1, rfl, hv, k1⟩ := k1
  unfold CL at k1
  obtain ⟨fv, us2, rfl, hfv, k1⟩ := k1
  unfold CL at k1
  subst k1
  unfold C at hfv
  obtain ⟨us3, rfl, h3'⟩ := hfv
  unfold CL at h3'
  subst h3'
  unfold C at hv
  refine seq_call hi (gOk_ok (o := o) h3 hg) k2 ((sort_core hk hpos A hA hc hsort hdec cfr hcf hL hlen h4 hS hv.1).mono fun en w' hh => ?_) (.inr rfl)
  obtain ⟨rfl, L', fp, fp', kp, m1, m2, hzz, hsat⟩ := hh
  refine ⟨_, rfl, .inr rfl, ?_⟩
  rw [hd]
  have hkeep := keepsPO h4.YZ hv.1 fp'
  have hF : Fits (E.setE kn v fp') w' F a := ⟨fun d x hx => by
    obtain ⟨u', q1, q2⟩ := h3.get d x hx
    exact ⟨u', q1, hkeep w' x u' rfl (C_mono h4.YZ (Env.le_refl E) hzz x u' q2)⟩⟩
  refine h L' m1 m2 _ _ w' ?_ ?_ (hF.putD (by unfold C; exact ⟨[], rfl, by unfold CL; rfl⟩) (by rw [h1]; exact hn)) hsat (fun s hs => by cases hs)
  · rw [(put_size _ _ _).1]; exact h1
  · rw [(put_size _ _ _).2]; exact h2
end
end Go.Proofs.Ytpkkaadflbppcaa.Kw
