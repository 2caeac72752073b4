/- The framework of this seat's proofs, part 1: a walk through a function over a symbolic state, proved sound. No condition. -/
import Derived.WalkKit
import Derived.KernelRfl
import Derived.RowKit3
import Derived.Maps.AppendAt
import Derived.Below
import Derived.Deep.OwnRows
import Derived.OrdersHeld
import Derived.Deep.RegionHeld3
import Derived.Laws.BitsLemmas
import Derived.RowKit
set_option linter.unusedSimpArgs false
set_option linter.unusedVariables false
/-! ### The symbolic state: read-only data by content, own blocks and own slices by number -/
namespace Go.Proofs.Ytmocggibcniggaa.Kw
open Go

/-- What a cell holds: a value; a pointer to cells that are read; a slice that is read; a slice that is frozen for good; a slice of the cell's own (in rows of own slices alone); anything. -/
inductive RV where
  | v (x : Value)
  | ro (cs : List RV)
  | rs (sz : Nat) (L : List (List RV))
  | fs (sz : Nat) (L : List (List RV))
  | os (e : TypeId) (sz : Nat) (L : List (List RV))
  | any
  deriving Inhabited

/-- What a slot holds. -/
inductive AV where
  | r (x : RV)
  | box (i off : Nat)
  | sl (k : Nat)
  | el (k sz i off : Nat)
  | ss (k sz i n : Nat)
  | cap (k : Nat)
  | capLe (k N : Nat)
  | capGt (k N : Nat)
  | agg (cs : List AV)
  | tup (cs : List AV)
  | fn (f : FuncId) (cap : List AV)
  | junk
  deriving Inhabited

structure Env where
  B : List Nat
  V : List Value
  P : List (List Nat)
  O : Nat → Option (Nat ⊕ Nat)
  Y : Nat → Prop
  Z : Nat → Prop

mutual
def CR (Y Z : Nat → Prop) (w : World) : RV → Value → Prop
  | .v x, u => u = x ∧ x.oneCell' = true
  | .ro cs, u => ∃ b o, u = .pointer (some ⟨b, o, none⟩) ∧ Z b ∧ CAt Y Z w cs b o
  | .rs sz L, u => ∃ A c, u = .slice A L.length c ∧ L.length ≤ c ∧ c ≤ maxLen ∧ (L = [] ∨ ∃ b o, A = some ⟨b, o, none⟩ ∧ Z b ∧ CRows Y Z w sz L b o)
  | .fs sz L, u => ∃ A c, u = .slice A L.length c ∧ L.length ≤ c ∧ c ≤ maxLen ∧ (L = [] ∨ ∃ b o, A = some ⟨b, o, none⟩ ∧ Y b ∧ CRows Y Z w sz L b o)
  | .os _ _ _, _ => False
  | .any, u => u.oneCell' = true
def CAt (Y Z : Nat → Prop) (w : World) : List RV → Nat → Nat → Prop
  | [], _, _ => True
  | c :: cs, b, o => (∃ u, w.cell? ⟨b, o, none⟩ = some u ∧ CR Y Z w c u) ∧ CAt Y Z w cs b (o + 1)
def CRows (Y Z : Nat → Prop) (w : World) (sz : Nat) : List (List RV) → Nat → Nat → Prop
  | [], _, _ => True
  | cs :: L, b, o => cs.length = sz ∧ CAt Y Z w cs b o ∧ CRows Y Z w sz L b (o + sz)
end

theorem CR_one {Y Z w x u} (h : CR Y Z w x u) : u.oneCell' = true := by
  cases x with
  | v x => unfold CR at h; rw [h.1]; exact h.2
  | ro cs => unfold CR at h; obtain ⟨b, o, rfl, _⟩ := h; rfl
  | rs sz L => unfold CR at h; obtain ⟨A, c, rfl, _⟩ := h; rfl
  | fs sz L => unfold CR at h; obtain ⟨A, c, rfl, _⟩ := h; rfl
  | os e sz L => unfold CR at h; exact h.elim
  | any => unfold CR at h; exact h

section
variable {Y Y' Z Z' : Nat → Prop} {w w' : World}
mutual
theorem CR_mono (hY : ∀ b, Y b → Y' b) (hZ : ∀ b, Z b → Z' b) (hyz : ∀ b, Y b → Z b) (hw : ∀ b, Z b → w'.heap[b]? = w.heap[b]?) : ∀ (x : RV) (u : Value), CR Y Z w x u → CR Y' Z' w' x u
  | .v _, _, h => by unfold CR at h ⊢; exact h
  | .ro cs, _, h => by
    unfold CR at h ⊢
    obtain ⟨b, o, rfl, hb, hc⟩ := h
    exact ⟨b, o, rfl, hZ b hb, CAt_mono hY hZ hyz hw cs b o hb hc⟩
  | .rs sz L, _, h => by
    unfold CR at h ⊢
    obtain ⟨A, c, rfl, h1, h2, h3⟩ := h
    refine ⟨A, c, rfl, h1, h2, ?_⟩
    rcases h3 with h3 | ⟨b, o, h3, hb, hc⟩
    · exact .inl h3
    · exact .inr ⟨b, o, h3, hZ b hb, CRows_mono hY hZ hyz hw sz L b o hb hc⟩
  | .fs sz L, _, h => by
    unfold CR at h ⊢
    obtain ⟨A, c, rfl, h1, h2, h3⟩ := h
    refine ⟨A, c, rfl, h1, h2, ?_⟩
    rcases h3 with h3 | ⟨b, o, h3, hb, hc⟩
    · exact .inl h3
    · exact .inr ⟨b, o, h3, hY b hb, CRows_mono hY hZ hyz hw sz L b o (hyz b hb) hc⟩
  | .os _ _ _, _, h => by unfold CR at h; exact h.elim
  | .any, _, h => by unfold CR at h ⊢; exact h
theorem CAt_mono (hY : ∀ b, Y b → Y' b) (hZ : ∀ b, Z b → Z' b) (hyz : ∀ b, Y b → Z b) (hw : ∀ b, Z b → w'.heap[b]? = w.heap[b]?) : ∀ (cs : List RV) (b o : Nat), Z b → CAt Y Z w cs b o → CAt Y' Z' w' cs b o
  | [], _, _, _, _ => by unfold CAt; trivial
  | c :: cs, b, o, hb, h => by
    unfold CAt at h ⊢
    obtain ⟨⟨u, h1, h2⟩, h3⟩ := h
    refine ⟨⟨u, ?_, CR_mono hY hZ hyz hw c u h2⟩, CAt_mono hY hZ hyz hw cs b (o + 1) hb h3⟩
    rw [World.cell?_of_block (w := w) (w' := w') (a := ⟨b, o, none⟩) (hw b hb)]
    exact h1
theorem CRows_mono (hY : ∀ b, Y b → Y' b) (hZ : ∀ b, Z b → Z' b) (hyz : ∀ b, Y b → Z b) (hw : ∀ b, Z b → w'.heap[b]? = w.heap[b]?) (sz : Nat) : ∀ (L : List (List RV)) (b o : Nat), Z b → CRows Y Z w sz L b o → CRows Y' Z' w' sz L b o
  | [], _, _, _, _ => by unfold CRows; trivial
  | cs :: L, b, o, hb, h => by
    unfold CRows at h ⊢
    exact ⟨h.1, CAt_mono hY hZ hyz hw cs b o hb h.2.1, CRows_mono hY hZ hyz hw sz L b (o + sz) hb h.2.2⟩
end
end
/-! What hangs on frozen memory alone. -/
mutual
def stR : RV → Bool
  | .v _ => true
  | .fs _ L => stLL L
  | .any => true
  | _ => false
def stL : List RV → Bool
  | [] => true
  | c :: cs => stR c && stL cs
def stLL : List (List RV) → Bool
  | [] => true
  | r :: L => stL r && stLL L
end
section
variable {Y Y' Z Z' : Nat → Prop} {w w' : World}
mutual
theorem CR_st (hY : ∀ b, Y b → Y' b) (hw : ∀ b, Y b → w'.heap[b]? = w.heap[b]?) : ∀ (x : RV) (u : Value), stR x = true → CR Y Z w x u → CR Y' Z' w' x u
  | .v _, _, _, h => by unfold CR at h ⊢; exact h
  | .ro cs, _, hs, _ => by simp [stR] at hs
  | .rs sz L, _, hs, _ => by simp [stR] at hs
  | .fs sz L, _, hs, h => by
    unfold stR at hs
    unfold CR at h ⊢
    obtain ⟨A, c, rfl, h1, h2, h3⟩ := h
    refine ⟨A, c, rfl, h1, h2, ?_⟩
    rcases h3 with h3 | ⟨b, o, h3, hb, hc⟩
    · exact .inl h3
    · exact .inr ⟨b, o, h3, hY b hb, CRows_st hY hw sz L b o hb hs hc⟩
  | .os _ _ _, _, _, h => by unfold CR at h; exact h.elim
  | .any, _, _, h => by unfold CR at h ⊢; exact h
theorem CAt_st (hY : ∀ b, Y b → Y' b) (hw : ∀ b, Y b → w'.heap[b]? = w.heap[b]?) : ∀ (cs : List RV) (b o : Nat), Y b → stL cs = true → CAt Y Z w cs b o → CAt Y' Z' w' cs b o
  | [], _, _, _, _, _ => by unfold CAt; trivial
  | c :: cs, b, o, hb, hs, h => by
    unfold stL at hs
    rw [Bool.and_eq_true] at hs
    unfold CAt at h ⊢
    obtain ⟨⟨u, h1, h2⟩, h3⟩ := h
    refine ⟨⟨u, ?_, CR_st hY hw c u hs.1 h2⟩, CAt_st hY hw cs b (o + 1) hb hs.2 h3⟩
    rw [World.cell?_of_block (w := w) (w' := w') (a := ⟨b, o, none⟩) (hw b hb)]
    exact h1
theorem CRows_st (hY : ∀ b, Y b → Y' b) (hw : ∀ b, Y b → w'.heap[b]? = w.heap[b]?) (sz : Nat) : ∀ (L : List (List RV)) (b o : Nat), Y b → stLL L = true → CRows Y Z w sz L b o → CRows Y' Z' w' sz L b o
  | [], _, _, _, _, _ => by unfold CRows; trivial
  | cs :: L, b, o, hb, hs, h => by
    unfold stLL at hs
    rw [Bool.and_eq_true] at hs
    unfold CRows at h ⊢
    exact ⟨h.1, CAt_st hY hw cs b o hb hs.1 h.2.1, CRows_st hY hw sz L b (o + sz) hb hs.2 h.2.2⟩
end
end

/-- No offset in a block: the mark of a map's handle. -/
def isMo (o : Nat) : Bool := Nat.beq o 4294967295
/-- No type: the mark of a map's block. -/
def isMp (t : TypeId) : Bool := Nat.beq t 4294967295
def hnd (off b : Nat) : Value := match isMo off with
  | true => .map (some b)
  | false => .pointer (some ⟨b, off, none⟩)
theorem hnd_p {off b : Nat} (h : isMo off = false) : hnd off b = .pointer (some ⟨b, off, none⟩) := by unfold hnd; rw [h]
theorem hnd_one (off b : Nat) : (hnd off b).oneCell' = true := by unfold hnd; cases isMo off <;> rfl
/-- The entries of a map, three cells each: the key's two, the value. -/
def entsV : Nat → List Value → List MapEntry
  | n, a :: b :: v :: r => ⟨.agg #[a, b], v, n⟩ :: entsV (n + 1) r
  | _, _ => []
def objOf (t : TypeId) (us : List Value) : Obj := match isMp t with
  | true => .map (List.toArray (entsV 0 us)) (entsV 0 us).length
  | false => .cells (List.toArray us) t (0, 0)
theorem objOf_c {t : TypeId} {us : List Value} (h : isMp t = false) : objOf t us = .cells (List.toArray us) t (0, 0) := by unfold objOf; rw [h]
mutual
def C (E : Env) (w : World) : AV → Value → Prop
  | .r x, u => CR E.Y E.Z w x u
  | .box i off, u => ∃ b, E.B[i]? = some b ∧ u = hnd off b
  | .sl k, u => E.V[k]? = some u ∧ u.oneCell' = true
  | .el k sz i off, u => ∃ b n c, E.V[k]? = some (.slice (some ⟨b, 0, none⟩) n c) ∧ u = .pointer (some ⟨b, i * sz + off, none⟩)
  | .ss k sz i n, u => ∃ A len cap, E.V[k]? = some (.slice A len cap) ∧ i + n ≤ cap ∧ ∃ A', u = .slice A' n (cap - i) ∧ (i = 0 ∨ i < cap → A' = A.map (·.add (i * sz)))
  | .cap k, u => ∃ A len cap, E.V[k]? = some (.slice A len cap) ∧ u = .int .i64 cap
  | .capLe k N, u => ∃ A len cap, E.V[k]? = some (.slice A len cap) ∧ u = .int .i64 cap ∧ N ≤ cap
  | .capGt k N, u => ∃ A len cap, E.V[k]? = some (.slice A len cap) ∧ u = .int .i64 cap ∧ cap < N
  | .agg cs, u => ∃ us, u = .agg (List.toArray us) ∧ CL E w cs us ∧ ∀ x ∈ us, x.oneCell' = true
  | .tup cs, u => ∃ us, u = .tuple (List.toArray us) ∧ CL E w cs us
  | .fn f cap, u => ∃ us, u = .func (.func f) #[] (List.toArray us) ∧ CL E w cap us
  | .junk, _ => True
def CL (E : Env) (w : World) : List AV → List Value → Prop
  | [], us => us = []
  | c :: cs, us => ∃ u r, us = u :: r ∧ C E w c u ∧ CL E w cs r
end

/-- One environment grows into another. -/
structure Env.le (E E' : Env) : Prop where
  B : ∀ (i b : Nat), E.B[i]? = some b → E'.B[i]? = some b
  V : ∀ (i : Nat) (b : Value), E.V[i]? = some b → E'.V[i]? = some b
  Y : ∀ b, E.Y b → E'.Y b
  Z : ∀ b, E.Z b → E'.Z b
theorem Env.le_refl (E : Env) : E.le E := ⟨fun _ _ h => h, fun _ _ h => h, fun _ h => h, fun _ h => h⟩
theorem Env.le_trans {E E' E'' : Env} (h : E.le E') (h' : E'.le E'') : E.le E'' := ⟨fun i b k => h'.B i b (h.B i b k), fun i b k => h'.V i b (h.V i b k), fun b k => h'.Y b (h.Y b k), fun b k => h'.Z b (h.Z b k)⟩

section
variable {E E' : Env} {w w' : World}
mutual
theorem C_mono (hyz : ∀ b, E.Y b → E.Z b) (hE : E.le E') (hw : ∀ b, E.Z b → w'.heap[b]? = w.heap[b]?) : ∀ (x : AV) (u : Value), C E w x u → C E' w' x u
  | .r x, u, h => by unfold C at h ⊢; exact CR_mono hE.Y hE.Z hyz hw x u h
  | .box i off, u, h => by unfold C at h ⊢; obtain ⟨b, h1, h2⟩ := h; exact ⟨b, hE.B i b h1, h2⟩
  | .sl k, u, h => by unfold C at h ⊢; exact ⟨hE.V k u h.1, h.2⟩
  | .el k sz i off, u, h => by unfold C at h ⊢; obtain ⟨b, n, c, h1, h2⟩ := h; exact ⟨b, n, c, hE.V k _ h1, h2⟩
  | .ss k sz i n, u, h => by unfold C at h ⊢; obtain ⟨A, l, c, h1, h2⟩ := h; exact ⟨A, l, c, hE.V k _ h1, h2⟩
  | .cap k, u, h => by unfold C at h ⊢; obtain ⟨A, l, c, h1, h2⟩ := h; exact ⟨A, l, c, hE.V k _ h1, h2⟩
  | .capLe k N, u, h => by unfold C at h ⊢; obtain ⟨A, l, c, h1, h2⟩ := h; exact ⟨A, l, c, hE.V k _ h1, h2⟩
  | .capGt k N, u, h => by unfold C at h ⊢; obtain ⟨A, l, c, h1, h2⟩ := h; exact ⟨A, l, c, hE.V k _ h1, h2⟩
  | .agg cs, u, h => by unfold C at h ⊢; obtain ⟨us, h1, h2, h3⟩ := h; exact ⟨us, h1, CL_mono hyz hE hw cs us h2, h3⟩
  | .tup cs, u, h => by unfold C at h ⊢; obtain ⟨us, h1, h2⟩ := h; exact ⟨us, h1, CL_mono hyz hE hw cs us h2⟩
  | .fn f cap, u, h => by unfold C at h ⊢; obtain ⟨us, h1, h2⟩ := h; exact ⟨us, h1, CL_mono hyz hE hw cap us h2⟩
  | .junk, u, h => by unfold C at h ⊢; exact h
theorem CL_mono (hyz : ∀ b, E.Y b → E.Z b) (hE : E.le E') (hw : ∀ b, E.Z b → w'.heap[b]? = w.heap[b]?) : ∀ (xs : List AV) (us : List Value), CL E w xs us → CL E' w' xs us
  | [], us, h => by unfold CL at h ⊢; exact h
  | c :: cs, us, h => by
    unfold CL at h ⊢
    obtain ⟨u, r, h1, h2, h3⟩ := h
    exact ⟨u, r, h1, C_mono hyz hE hw c u h2, CL_mono hyz hE hw cs r h3⟩
end
end
theorem CL_length {E w} : ∀ {xs : List AV} {us : List Value}, CL E w xs us → us.length = xs.length
  | [], us, h => by unfold CL at h; subst h; rfl
  | c :: cs, us, h => by unfold CL at h; obtain ⟨u, r, rfl, _, h3⟩ := h; simp [CL_length h3]
theorem CL_get {E w} : ∀ {xs : List AV} {us : List Value}, CL E w xs us → ∀ {i : Nat} {x : AV}, xs[i]? = some x → ∃ u, us[i]? = some u ∧ C E w x u
  | [], us, h, i, x, hx => by simp at hx
  | c :: cs, us, h, i, x, hx => by
    unfold CL at h
    obtain ⟨u, r, rfl, h2, h3⟩ := h
    cases i with
    | zero => simp at hx; subst hx; exact ⟨u, by simp, h2⟩
    | succ i => simp at hx; obtain ⟨v, h4, h5⟩ := CL_get h3 hx; exact ⟨v, by simpa using h4, h5⟩
theorem CL_of {E w} : ∀ {xs : List AV} {us : List Value}, us.length = xs.length → (∀ (i : Nat) (x : AV) (u : Value), xs[i]? = some x → us[i]? = some u → C E w x u) → CL E w xs us
  | [], us, h, _ => by unfold CL; exact List.eq_nil_of_length_eq_zero h
  | c :: cs, us, h, k => by
    unfold CL
    cases us with
    | nil => simp at h
    | cons u r => exact ⟨u, r, rfl, k 0 c u rfl rfl, CL_of (by simpa using h) (fun i x v hx hv => k (i + 1) x v (by simpa using hx) (by simpa using hv))⟩
theorem CL_set {E w} {xs : List AV} {us : List Value} (h : CL E w xs us) (i : Nat) {x : AV} {u : Value} (hx : C E w x u) : CL E w (xs.set i x) (us.set i u) := by
  refine CL_of (by simp [CL_length h]) (fun j y v hy hv => ?_)
  by_cases hij : i = j
  · subst hij
    have hl : i < xs.length := by
      have := (List.getElem?_eq_some_iff.1 hy).1
      simpa using this
    have hl' : i < us.length := by rw [CL_length h]; exact hl
    simp [hl] at hy
    simp [hl'] at hv
    subst hy; subst hv
    exact hx
  · rw [List.getElem?_set_ne hij] at hy hv
    obtain ⟨v', h1, h2⟩ := CL_get h hy
    rw [h1] at hv
    cases hv
    exact h2
theorem CL_append {E w} : ∀ {xs ys : List AV} {us vs : List Value}, CL E w xs us → CL E w ys vs → CL E w (xs ++ ys) (us ++ vs)
  | [], ys, us, vs, h, h' => by unfold CL at h; subst h; exact h'
  | c :: cs, ys, us, vs, h, h' => by
    unfold CL at h
    obtain ⟨u, r, rfl, h2, h3⟩ := h
    show CL E w (c :: (cs ++ ys)) _
    unfold CL
    exact ⟨u, r ++ vs, rfl, h2, CL_append h3 h'⟩
theorem CL_drop {E w} {xs : List AV} {us : List Value} (h : CL E w xs us) (i : Nat) : CL E w (xs.drop i) (us.drop i) :=
  CL_of (by simp [CL_length h]) (fun j x u hx hu => by
    rw [List.getElem?_drop] at hx hu
    obtain ⟨v, h1, h2⟩ := CL_get h hx
    rw [h1] at hu
    cases hu
    exact h2)
theorem CL_take {E w} {xs : List AV} {us : List Value} (h : CL E w xs us) (i : Nat) : CL E w (xs.take i) (us.take i) :=
  CL_of (by simp [CL_length h]) (fun j x u hx hu => by
    rw [List.getElem?_take] at hx hu
    split at hx
    · rename_i hj
      rw [if_pos hj] at hu
      obtain ⟨v, h1, h2⟩ := CL_get h hx
      rw [h1] at hu
      cases hu
      exact h2
    · cases hx)
/-! ### the draws only grow -/
theorem ask_drawn {α : Type} : ∀ (s : Ask α) (w : World), w.drawn ≤ (w.ask s).2.drawn
  | .done a, w => Nat.le_refl _
  | .ask what range k, w => by
    unfold World.ask
    simp only
    split
    · exact ask_drawn (k 0) w
    · exact Nat.le_trans (Nat.le_succ _) (ask_drawn (k _) { w with drawn := w.drawn + 1 })
theorem sys_drawn (w : World) (c : Sys) : w.drawn ≤ (w.sys c).2.drawn := by
  unfold World.sys
  have h := ask_drawn (Kernel.perform c w.os) w
  generalize w.ask (Kernel.perform c w.os) = x at h ⊢
  obtain ⟨⟨r, os⟩, w'⟩ := x
  cases r <;> first | exact Nat.le_refl _ | exact h
theorem viewStore_drawn {p : Program} {w : World} {at_ : Addr} {u : TypeId} {k : Addr} {v : Value} {atomic : Bool} {r : World × List Addr} (h : w.viewStore p at_ u k v atomic = .ok r) : r.1.drawn = w.drawn := by
  unfold World.viewStore at h
  simp only [bind, Except.bind, pure, Except.pure] at h
  repeat' (split at h)
  all_goals first | (cases h; done) | (cases h; rfl)
theorem farStore_drawn {p : Program} {w : World} {a : Addr} {v : Value} {atomic : Bool} {r : World × List Addr} (h : w.farStore p a v atomic = .ok r) : r.1.drawn = w.drawn := by
  unfold World.farStore at h
  split at h
  · split at h
    · rename_i hv; cases h; exact viewStore_drawn hv
    · cases h
  · cases h
theorem run_drawn {α : Type} {P : Program} : ∀ (s : Sem α) (w : World) (a : α) (w' : World), s.run P w = .ok a w' → w.drawn ≤ w'.drawn
  | .pure a, w, b, w', h => by simp only [Sem.run] at h; cases h; exact Nat.le_refl _
  | .load m a k, w, b, w', h => by
    simp only [Sem.run] at h
    split at h
    · exact run_drawn (k _) w b w' h
    · split at h
      · exact run_drawn (k _) w b w' h
      · cases h
  | .store m a v k, w, b, w', h => by
    have key : (match w.cell? a with
      | some _ => if w.frozen? a then Result.halt (.unsupported (.unsafePointer "a write to bytes that a string shares")) w else k.run P (w.setCell a v)
      | none => match w.farStore P a v (m == Mode.atomic) with
        | .ok (w, _) => k.run P w
        | .error h => .halt h w) = .ok b w' := by
      cases v <;> first | exact h | cases h
    split at key
    · split at key
      · cases key
      · have := run_drawn k _ b w' key; exact this
    · split at key
      · rename_i hf
        have := farStore_drawn hf
        have := run_drawn k _ b w' key
        simp only at *
        omega
      · cases key
  | .new o k, w, b, w', h => by simp only [Sem.run] at h; have := run_drawn (k _) _ b w' h; exact this
  | .shape r k, w, b, w', h => by simp only [Sem.run] at h; exact run_drawn (k _) _ b w' h
  | .freeze a n k, w, b, w', h => by
    simp only [Sem.run] at h
    have := run_drawn k _ b w' h
    unfold World.freeze at this
    split at this <;> exact this
  | .frozen a k, w, b, w', h => by simp only [Sem.run] at h; exact run_drawn (k _) _ b w' h
  | .getObj r k, w, b, w', h => by
    simp only [Sem.run] at h
    split at h
    · cases h
    · exact run_drawn (k _) _ b w' h
    · cases h
  | .setObj r o k, w, b, w', h => by
    simp only [Sem.run] at h
    split at h
    · cases h
    · have := run_drawn k _ b w' h; exact this
    · cases h
  | .choose q k, w, b, w', h => by
    simp only [Sem.run] at h
    split at h
    · exact run_drawn (k _) _ b w' h
    · exact Nat.le_trans (Nat.le_succ _) (run_drawn (k _) _ b w' h)
  | .sys c k, w, b, w', h => by simp only [Sem.run] at h; exact Nat.le_trans (sys_drawn w c) (run_drawn (k _) _ b w' h)
  | .program k, w, b, w', h => by simp only [Sem.run] at h; exact run_drawn (k _) _ b w' h
  | .mark m k, w, b, w', h => by simp only [Sem.run] at h; exact run_drawn k _ b w' h
  | .halt h', w, b, w', h => by simp only [Sem.run] at h; cases h
end Go.Proofs.Ytmocggibcniggaa.Kw
namespace Go.Proofs.Ytmocggibcniggaa.Kw
open Go
/-- An own slice: its elements' type, their cells; ns: may rows hold slices of their own? -/
structure SE where
  e : TypeId
  sz : Nat
  L : List (List RV)
  ns : Bool
abbrev Hp := List (Option (TypeId × List AV))
abbrev Sp := List (Option SE)
abbrev Fr := List (Nat × AV)
def Fr.get : Fr → Nat → Option AV
  | [], _ => none
  | (d, x) :: F, n => match Nat.beq d n with
    | true => some x
    | false => Fr.get F n

def RL (Y Z : Nat → Prop) (w : World) : List RV → List Value → Prop
  | [], us => us = []
  | c :: cs, us => ∃ u r, us = u :: r ∧ CR Y Z w c u ∧ RL Y Z w cs r
def Rows (Y Z : Nat → Prop) (w : World) (sz : Nat) : List (List RV) → List Value → Prop
  | [], us => us = []
  | r :: L, us => ∃ a b, us = a ++ b ∧ r.length = sz ∧ RL Y Z w r a ∧ Rows Y Z w sz L b

section
variable {Y Y' Z Z' : Nat → Prop} {w w' : World}
theorem RL_length : ∀ {xs : List RV} {us : List Value}, RL Y Z w xs us → us.length = xs.length
  | [], us, h => by unfold RL at h; subst h; rfl
  | c :: cs, us, h => by unfold RL at h; obtain ⟨u, r, rfl, _, h3⟩ := h; simp [RL_length h3]
theorem RL_one : ∀ {xs : List RV} {us : List Value}, RL Y Z w xs us → ∀ u ∈ us, u.oneCell' = true
  | [], us, h, u, hu => by unfold RL at h; subst h; simp at hu
  | c :: cs, us, h, u, hu => by
    unfold RL at h
    obtain ⟨v, r, rfl, h2, h3⟩ := h
    rcases List.mem_cons.1 hu with rfl | hu
    · exact CR_one h2
    · exact RL_one h3 u hu
theorem RL_mono (hY : ∀ b, Y b → Y' b) (hZ : ∀ b, Z b → Z' b) (hyz : ∀ b, Y b → Z b) (hw : ∀ b, Z b → w'.heap[b]? = w.heap[b]?) : ∀ {xs : List RV} {us : List Value}, RL Y Z w xs us → RL Y' Z' w' xs us
  | [], us, h => by unfold RL at h ⊢; exact h
  | c :: cs, us, h => by
    unfold RL at h ⊢
    obtain ⟨u, r, h1, h2, h3⟩ := h
    exact ⟨u, r, h1, CR_mono hY hZ hyz hw c u h2, RL_mono hY hZ hyz hw h3⟩
theorem RL_get : ∀ {xs : List RV} {us : List Value}, RL Y Z w xs us → ∀ {i : Nat} {x : RV}, xs[i]? = some x → ∃ u, us[i]? = some u ∧ CR Y Z w x u
  | [], us, h, i, x, hx => by simp at hx
  | c :: cs, us, h, i, x, hx => by
    unfold RL at h
    obtain ⟨u, r, rfl, h2, h3⟩ := h
    cases i with
    | zero => simp at hx; subst hx; exact ⟨u, by simp, h2⟩
    | succ i => simp at hx; obtain ⟨v, h4, h5⟩ := RL_get h3 hx; exact ⟨v, by simpa using h4, h5⟩
theorem Rows_length {sz : Nat} : ∀ {L : List (List RV)} {us : List Value}, Rows Y Z w sz L us → us.length = L.length * sz
  | [], us, h => by unfold Rows at h; subst h; simp
  | c :: cs, us, h => by
    unfold Rows at h
    obtain ⟨a, b, rfl, h2, h3, h4⟩ := h
    rw [List.length_append, RL_length h3, h2, Rows_length h4, List.length_cons, Nat.add_mul, Nat.one_mul, Nat.add_comm]
end

theorem own_one' {w : World} {base : Nat} {e : TypeId} {size n : Nat} {v : Value} {xs : List Value} (h : w.ownsRow base e size v n xs) : v.oneCell' = true := by
  rcases h.2 with ⟨rfl, _⟩ | ⟨g, cap, cur, rfl, _⟩ <;> rfl
theorem own_stays {w w' : World} {base : Nat} {e : TypeId} {size n : Nat} {v : Value} {xs : List Value} (h : w.ownsRow base e size v n xs) (hm : ∀ k, v.ownBlock = some k → w'.heap[k]? = w.heap[k]?) : w'.ownsRow base e size v n xs := by
  obtain ⟨h1, h2⟩ := h
  refine ⟨h1, ?_⟩
  rcases h2 with h2 | ⟨g, cap, cur, rfl, hg, hh, r⟩
  · exact .inl h2
  · exact .inr ⟨g, cap, cur, rfl, hg, (hm g (by simp [Value.ownBlock])).trans hh, r⟩
theorem own_block_lt {w : World} {base : Nat} {e : TypeId} {size n : Nat} {v : Value} {xs : List Value} (h : w.ownsRow base e size v n xs) : ∀ k, v.ownBlock = some k → k < w.heap.size := by
  intro k hk
  obtain ⟨h1, h2⟩ := h
  rcases h2 with ⟨rfl, _⟩ | ⟨g, cap, cur, rfl, hg, hh, r⟩
  · simp [Value.ownBlock] at hk
  · simp [Value.ownBlock] at hk
    subst hk
    exact (Array.getElem?_eq_some_iff.1 hh).1
theorem own_cells {w : World} {base : Nat} {e : TypeId} {size n : Nat} {v : Value} {xs : List Value} (h : w.ownsRow base e size v n xs) : (v = .slice none 0 0 ∧ n = 0) ∨ ∃ b cap, v = .slice (some ⟨b, 0, none⟩) n cap ∧ n ≤ cap ∧ cap ≤ maxLen ∧ b < w.heap.size ∧ ∀ (j : Nat) (u : Value), xs[j]? = some u → w.cell? ⟨b, j, none⟩ = some u := by
  obtain ⟨h1, h2⟩ := h
  rcases h2 with h2 | ⟨g, cap, cur, rfl, hg, hh, h3, h4, h5, h6⟩
  · exact .inl h2
  · refine .inr ⟨g, cap, rfl, h3, h4, (Array.getElem?_eq_some_iff.1 hh).1, fun j u hu => ?_⟩
    subst h6
    rw [List.getElem?_take] at hu
    split at hu
    · simp [World.cell?, hh]; simpa using hu
    · cases hu
section
variable {Y Y' Z Z' : Nat → Prop} {w w' : World} {sz : Nat}
theorem Rows_mono (hY : ∀ b, Y b → Y' b) (hZ : ∀ b, Z b → Z' b) (hyz : ∀ b, Y b → Z b) (hw : ∀ b, Z b → w'.heap[b]? = w.heap[b]?) : ∀ {L : List (List RV)} {us : List Value}, Rows Y Z w sz L us → Rows Y' Z' w' sz L us
  | [], us, h => by unfold Rows at h ⊢; exact h
  | c :: cs, us, h => by
    unfold Rows at h ⊢
    obtain ⟨a, b, h1, h2, h3, h4⟩ := h
    exact ⟨a, b, h1, h2, RL_mono hY hZ hyz hw h3, Rows_mono hY hZ hyz hw h4⟩
theorem Rows_append : ∀ {L M : List (List RV)} {us vs : List Value}, Rows Y Z w sz L us → Rows Y Z w sz M vs → Rows Y Z w sz (L ++ M) (us ++ vs)
  | [], M, us, vs, h, h' => by unfold Rows at h; subst h; exact h'
  | c :: cs, M, us, vs, h, h' => by
    unfold Rows at h
    obtain ⟨a, b, rfl, h2, h3, h4⟩ := h
    show Rows Y Z w sz (c :: (cs ++ M)) _
    unfold Rows
    exact ⟨a, b ++ vs, by simp, h2, h3, Rows_append h4 h'⟩
theorem Rows_ones : ∀ {L : List (List RV)} {us : List Value}, Rows Y Z w sz L us → ∀ u ∈ us, u.oneCell' = true
  | [], us, h, u, hu => by unfold Rows at h; subst h; simp at hu
  | c :: cs, us, h, u, hu => by
    unfold Rows at h
    obtain ⟨a, b, rfl, h2, h3, h4⟩ := h
    rcases List.mem_append.1 hu with hu | hu
    · exact RL_one h3 u hu
    · exact Rows_ones h4 u hu
/-- Element i. -/
theorem Rows_get : ∀ {L : List (List RV)} {us : List Value}, Rows Y Z w sz L us → ∀ {i : Nat} {r : List RV}, L[i]? = some r → ∃ vs, (us.drop (i * sz)).take sz = vs ∧ r.length = sz ∧ RL Y Z w r vs
  | [], us, h, i, r, hr => by simp at hr
  | c :: cs, us, h, i, r, hr => by
    unfold Rows at h
    obtain ⟨a, b, rfl, h2, h3, h4⟩ := h
    have hl := RL_length h3
    cases i with
    | zero =>
      simp at hr; subst hr
      exact ⟨a, by simp [← h2, ← hl], h2, h3⟩
    | succ i =>
      simp at hr
      obtain ⟨vs, h5, h6, h7⟩ := Rows_get h4 hr
      refine ⟨vs, ?_, h6, h7⟩
      rw [← h5, show (i + 1) * sz = a.length + i * sz from by rw [hl, h2, Nat.add_mul, Nat.one_mul, Nat.add_comm], ← List.drop_drop, List.drop_left]
end
/-! ### rows that may hold slices of their own -/
def OR (Y Z : Nat → Prop) (w : World) : RV → Value → List Nat → Prop
  | .os e sz L, u, fp => ∃ cs, w.ownsRow 0 e sz u L.length cs ∧ Rows Y Z w sz L cs ∧ fp = u.ownBlock.toList
  | x, u, fp => CR Y Z w x u ∧ fp = []
def ORL (Y Z : Nat → Prop) (w : World) : List RV → List Value → List Nat → Prop
  | [], us, fp => us = [] ∧ fp = []
  | c :: cs, us, fp => ∃ u r f g, us = u :: r ∧ OR Y Z w c u f ∧ ORL Y Z w cs r g ∧ fp = f ++ g
def ORows (Y Z : Nat → Prop) (w : World) (sz : Nat) : List (List RV) → List Value → List Nat → Prop
  | [], us, fp => us = [] ∧ fp = []
  | r :: L, us, fp => ∃ a b f g, us = a ++ b ∧ r.length = sz ∧ ORL Y Z w r a f ∧ ORows Y Z w sz L b g ∧ fp = f ++ g
/-- The rows of an own slice, and what blocks they own. -/
def RowsE (Y Z : Nat → Prop) (w : World) (e : SE) (cs : List Value) (f : List Nat) : Prop := match e.ns with
  | false => Rows Y Z w e.sz e.L cs ∧ f = []
  | true => ORows Y Z w e.sz e.L cs f
/-- The blocks of an own slice. -/
def OwnE (Y Z : Nat → Prop) (w : World) (e : SE) (v : Value) (fp : List Nat) : Prop := ∃ cs f, w.ownsRow 0 e.e e.sz v e.L.length cs ∧ RowsE Y Z w e cs f ∧ fp = v.ownBlock.toList ++ f
def isOs : RV → Bool
  | .os _ _ _ => true
  | _ => false
theorem OR_cr {Y Z w x u fp} (hx : isOs x = false) : OR Y Z w x u fp ↔ CR Y Z w x u ∧ fp = [] := by
  cases x <;> first | (cases hx; done) | exact Iff.rfl
theorem OR_of_cr {Y Z w x u} (h : CR Y Z w x u) : OR Y Z w x u [] := by
  cases x <;> first | exact ⟨h, rfl⟩ | (unfold CR at h; exact h.elim)
theorem OR_one {Y Z w x u fp} (h : OR Y Z w x u fp) : u.oneCell' = true := by
  cases x with
  | os e sz L => obtain ⟨cs, h1, _⟩ := h; exact own_one' h1
  | _ => exact CR_one h.1
section
variable {Y Y' Z Z' : Nat → Prop} {w w' : World}
theorem ORL_length : ∀ {xs : List RV} {us : List Value} {fp : List Nat}, ORL Y Z w xs us fp → us.length = xs.length
  | [], us, fp, h => by unfold ORL at h; rw [h.1]; rfl
  | c :: cs, us, fp, h => by unfold ORL at h; obtain ⟨u, r, f, g, rfl, _, h3, _⟩ := h; simp [ORL_length h3]
theorem OR_lt {x : RV} {u : Value} {fp : List Nat} (h : OR Y Z w x u fp) : ∀ b ∈ fp, b < w.heap.size := by
  cases x with
  | os e sz L =>
    obtain ⟨cs, h1, _, rfl⟩ := h
    exact fun b hb => own_block_lt h1 b (by simpa using hb)
  | _ => rw [h.2]; simp
theorem ORL_lt : ∀ {xs : List RV} {us : List Value} {fp : List Nat}, ORL Y Z w xs us fp → ∀ b ∈ fp, b < w.heap.size
  | [], us, fp, h => by unfold ORL at h; rw [h.2]; simp
  | c :: cs, us, fp, h => by
    unfold ORL at h
    obtain ⟨u, r, f, g, rfl, h2, h3, rfl⟩ := h
    intro b hb
    rcases List.mem_append.1 hb with hb | hb
    · exact OR_lt h2 b hb
    · exact ORL_lt h3 b hb
theorem ORows_lt {sz : Nat} : ∀ {L : List (List RV)} {us : List Value} {fp : List Nat}, ORows Y Z w sz L us fp → ∀ b ∈ fp, b < w.heap.size
  | [], us, fp, h => by unfold ORows at h; rw [h.2]; simp
  | c :: cs, us, fp, h => by
    unfold ORows at h
    obtain ⟨a, b', f, g, rfl, h2, h3, h4, rfl⟩ := h
    intro b hb
    rcases List.mem_append.1 hb with hb | hb
    · exact ORL_lt h3 b hb
    · exact ORows_lt h4 b hb
section
variable (hY : ∀ b, Y b → Y' b) (hZ : ∀ b, Z b → Z' b) (hyz : ∀ b, Y b → Z b) (hw : ∀ b, Z b → w'.heap[b]? = w.heap[b]?)
include hY hZ hyz hw
theorem OR_mono {x : RV} {u : Value} {fp : List Nat} (hf : ∀ b ∈ fp, w'.heap[b]? = w.heap[b]?) (h : OR Y Z w x u fp) : OR Y' Z' w' x u fp := by
  cases x with
  | os e sz L =>
    obtain ⟨cs, h1, h2, rfl⟩ := h
    exact ⟨cs, own_stays h1 (fun b hb => hf b (by simp [hb])), Rows_mono hY hZ hyz hw h2, rfl⟩
  | _ => exact ⟨CR_mono hY hZ hyz hw _ _ h.1, h.2⟩
theorem ORL_mono : ∀ {xs : List RV} {us : List Value} {fp : List Nat}, (∀ b ∈ fp, w'.heap[b]? = w.heap[b]?) → ORL Y Z w xs us fp → ORL Y' Z' w' xs us fp
  | [], us, fp, _, h => by unfold ORL at h ⊢; exact h
  | c :: cs, us, fp, hf, h => by
    unfold ORL at h ⊢
    obtain ⟨u, r, f, g, rfl, h2, h3, rfl⟩ := h
    exact ⟨u, r, f, g, rfl, OR_mono hY hZ hyz hw (fun b hb => hf b (by simp [hb])) h2, ORL_mono (fun b hb => hf b (by simp [hb])) h3, rfl⟩
theorem ORows_mono {sz : Nat} : ∀ {L : List (List RV)} {us : List Value} {fp : List Nat}, (∀ b ∈ fp, w'.heap[b]? = w.heap[b]?) → ORows Y Z w sz L us fp → ORows Y' Z' w' sz L us fp
  | [], us, fp, _, h => by unfold ORows at h ⊢; exact h
  | c :: cs, us, fp, hf, h => by
    unfold ORows at h ⊢
    obtain ⟨a, b', f, g, rfl, h2, h3, h4, rfl⟩ := h
    exact ⟨a, b', f, g, rfl, h2, ORL_mono hY hZ hyz hw (fun b hb => hf b (by simp [hb])) h3, ORows_mono (fun b hb => hf b (by simp [hb])) h4, rfl⟩
theorem OwnE_mono {e : SE} {v : Value} {fp : List Nat} (hf : ∀ b ∈ fp, w'.heap[b]? = w.heap[b]?) (h : OwnE Y Z w e v fp) : OwnE Y' Z' w' e v fp := by
  obtain ⟨cs, f, h1, h2, rfl⟩ := h
  refine ⟨cs, f, own_stays h1 (fun b hb => hf b (by simp [hb])), ?_, rfl⟩
  unfold RowsE at h2 ⊢
  cases hn : e.ns with
  | false => rw [hn] at h2; exact ⟨Rows_mono hY hZ hyz hw h2.1, h2.2⟩
  | true => rw [hn] at h2; exact ORows_mono hY hZ hyz hw (fun b hb => hf b (by simp [hb])) h2
end
theorem OwnE_lt {e : SE} {v : Value} {fp : List Nat} (h : OwnE Y Z w e v fp) : ∀ b ∈ fp, b < w.heap.size := by
  obtain ⟨cs, f, h1, h2, rfl⟩ := h
  intro b hb
  rcases List.mem_append.1 hb with hb | hb
  · exact own_block_lt h1 b (by simpa using hb)
  · unfold RowsE at h2
    cases hn : e.ns with
    | false => rw [hn] at h2; rw [h2.2] at hb; cases hb
    | true => rw [hn] at h2; exact ORows_lt h2 b hb
/-- An own slice whose rows own nothing. -/
theorem OwnE_flat {e : SE} {v : Value} {fp : List Nat} (hn : e.ns = false) : OwnE Y Z w e v fp ↔ ∃ cs, w.ownsRow 0 e.e e.sz v e.L.length cs ∧ Rows Y Z w e.sz e.L cs ∧ fp = v.ownBlock.toList := by
  unfold OwnE RowsE
  rw [hn]
  constructor
  · rintro ⟨cs, f, h1, ⟨h2, rfl⟩, h3⟩
    exact ⟨cs, h1, h2, by simpa using h3⟩
  · rintro ⟨cs, h1, h2, h3⟩
    exact ⟨cs, [], h1, ⟨h2, rfl⟩, by simpa using h3⟩
theorem OwnE_nest {e : SE} {v : Value} {fp : List Nat} (hn : e.ns = true) : OwnE Y Z w e v fp ↔ ∃ cs f, w.ownsRow 0 e.e e.sz v e.L.length cs ∧ ORows Y Z w e.sz e.L cs f ∧ fp = v.ownBlock.toList ++ f := by
  unfold OwnE RowsE
  rw [hn]
theorem ob_nodup (v : Value) : v.ownBlock.toList.Nodup := by cases v.ownBlock <;> simp
/-- Cell i of a row. -/
theorem ORL_get : ∀ {xs : List RV} {us : List Value} {fp : List Nat}, ORL Y Z w xs us fp → ∀ {i : Nat} {x : RV}, xs[i]? = some x → ∃ u f, us[i]? = some u ∧ OR Y Z w x u f ∧ ∀ b ∈ f, b ∈ fp
  | [], us, fp, h, i, x, hx => by simp at hx
  | c :: cs, us, fp, h, i, x, hx => by
    unfold ORL at h
    obtain ⟨u, r, f, g, rfl, h2, h3, rfl⟩ := h
    cases i with
    | zero => simp at hx; subst hx; exact ⟨u, f, by simp, h2, fun b hb => by simp [hb]⟩
    | succ i => simp at hx; obtain ⟨v, f', h4, h5, h6⟩ := ORL_get h3 hx; exact ⟨v, f', by simpa using h4, h5, fun b hb => by simp [h6 b hb]⟩
theorem ORows_append {sz : Nat} : ∀ {L M : List (List RV)} {us vs : List Value} {f g : List Nat}, ORows Y Z w sz L us f → ORows Y Z w sz M vs g → ORows Y Z w sz (L ++ M) (us ++ vs) (f ++ g)
  | [], M, us, vs, f, g, h, h' => by unfold ORows at h; rw [h.1, h.2]; exact h'
  | c :: cs, M, us, vs, f, g, h, h' => by
    unfold ORows at h
    obtain ⟨a, b, f1, f2, rfl, h2, h3, h4, rfl⟩ := h
    show ORows Y Z w sz (c :: (cs ++ M)) _ _
    unfold ORows
    exact ⟨a, b ++ vs, f1, f2 ++ g, by simp, h2, h3, ORows_append h4 h', by simp⟩
/-- The rows ahead of a place, the row there, those behind it. -/
theorem ORows_split {sz : Nat} : ∀ {L : List (List RV)} {us : List Value} {fp : List Nat}, ORows Y Z w sz L us fp → ∀ {i : Nat} {r : List RV}, L[i]? = some r →
    ∃ a vs b f g h, us = a ++ vs ++ b ∧ a.length = i * sz ∧ r.length = sz ∧ fp = f ++ g ++ h ∧ ORows Y Z w sz (L.take i) a f ∧ ORL Y Z w r vs g ∧ ORows Y Z w sz (L.drop (i + 1)) b h
  | [], us, fp, h, i, r, hr => by simp at hr
  | c :: cs, us, fp, h, i, r, hr => by
    unfold ORows at h
    obtain ⟨a, b, f, g, rfl, h2, h3, h4, rfl⟩ := h
    cases i with
    | zero =>
      simp at hr; subst hr
      exact ⟨[], a, b, [], f, g, by simp, by simp, h2, by simp, by simp; unfold ORows; exact ⟨rfl, rfl⟩, h3, by simpa using h4⟩
    | succ i =>
      simp at hr
      obtain ⟨a', vs, b', f', g', h', k1, k2, k3, k4, k5, k6, k7⟩ := ORows_split h4 hr
      have hal : a.length = sz := (ORL_length h3).trans h2
      refine ⟨a ++ a', vs, b', f ++ f', g', h', by rw [k1]; simp, by rw [List.length_append, hal, k2, Nat.add_mul]; omega, k3, by rw [k4]; simp, ?_, k6, by simpa using k7⟩
      rw [List.take_succ_cons]
      unfold ORows
      exact ⟨a, a', f, f', rfl, h2, h3, k5, rfl⟩
theorem ORows_get {sz : Nat} {L : List (List RV)} {us : List Value} {fp : List Nat} (h : ORows Y Z w sz L us fp) {i : Nat} {r : List RV} (hr : L[i]? = some r) : ∃ vs g, (us.drop (i * sz)).take sz = vs ∧ r.length = sz ∧ ORL Y Z w r vs g ∧ ∀ b ∈ g, b ∈ fp := by
  obtain ⟨a, vs, b, f, g, h', k1, k2, k3, k4, k5, k6, k7⟩ := ORows_split h hr
  refine ⟨vs, g, ?_, k3, k6, fun b hb => by rw [k4]; simp [hb]⟩
  have hvl := ORL_length k6
  rw [k1, ← k2, List.append_assoc, List.drop_left, List.take_left' (by omega)]
theorem ORL_of_RL : ∀ {xs : List RV} {us : List Value}, RL Y Z w xs us → ORL Y Z w xs us []
  | [], us, h => by unfold RL at h; unfold ORL; exact ⟨h, rfl⟩
  | c :: cs, us, h => by
    unfold RL at h
    obtain ⟨u, r, rfl, h2, h3⟩ := h
    unfold ORL
    exact ⟨u, r, [], [], rfl, OR_of_cr h2, ORL_of_RL h3, rfl⟩
theorem ORows_of_Rows {sz : Nat} : ∀ {L : List (List RV)} {us : List Value}, Rows Y Z w sz L us → ORows Y Z w sz L us []
  | [], us, h => by unfold Rows at h; unfold ORows; exact ⟨h, rfl⟩
  | c :: cs, us, h => by
    unfold Rows at h
    obtain ⟨a, b, rfl, h2, h3, h4⟩ := h
    unfold ORows
    exact ⟨a, b, [], [], rfl, h2, ORL_of_RL h3, ORows_of_Rows h4, rfl⟩
/-- As read, a row without slices of its own. -/
theorem RL_of_ORL : ∀ {xs : List RV} {us : List Value} {fp : List Nat}, (xs.all fun x => !isOs x) = true → ORL Y Z w xs us fp → RL Y Z w xs us
  | [], us, fp, _, h => by unfold ORL at h; unfold RL; exact h.1
  | c :: cs, us, fp, hn, h => by
    simp only [List.all_cons, Bool.and_eq_true, Bool.not_eq_true'] at hn
    unfold ORL at h
    obtain ⟨u, r, f, g, rfl, h2, h3, _⟩ := h
    unfold RL
    exact ⟨u, r, rfl, ((OR_cr hn.1).1 h2).1, RL_of_ORL hn.2 h3⟩
end

/-- Is the first no more than the second? -/
def ble0 (n m : Nat) : Bool := match n with
  | 0 => true
  | n + 1 => Nat.ble (n + 1) m
theorem ble0_le : ∀ {n m : Nat}, ble0 n m = true → n ≤ m
  | 0, _, _ => Nat.zero_le _
  | _ + 1, _, h => Nat.le_of_ble_eq_true h
/-- What may be written of the elder memory; what was told as read only, and as frozen, at the beginning. -/
structure Org where
  X : Nat → Prop
  Z0 : Nat → Prop
  Y0 : Nat → Prop
  nb : Nat := 0
  B0 : Nat → Option Nat := fun _ => none
  nv : Nat := 0
  V0 : Nat → Option Value := fun _ => none
structure Sat (w0 : World) (X : Org) (E : Env) (H : Hp) (S : Sp) (w : World) : Prop where
  lB : E.B.length = H.length
  lV : E.V.length = S.length
  lP : E.P.length = S.length
  box : ∀ (i : Nat) (t : TypeId) (cs : List AV), H[i]? = some (some (t, cs)) → ∃ b us, E.B[i]? = some b ∧ w.heap[b]? = some (objOf t us) ∧ CL E w cs us ∧ ∀ x ∈ us, x.oneCell' = true
  sl : ∀ (k : Nat) (e : SE), S[k]? = some (some e) → ∃ v fp, E.V[k]? = some v ∧ E.P[k]? = some fp ∧ OwnE E.Y E.Z w e v fp
  oB : ∀ (i b : Nat), E.B[i]? = some b → E.O b = some (.inl i)
  oP : ∀ (k : Nat) (e : SE) (fp : List Nat) (b : Nat), S[k]? = some (some e) → E.P[k]? = some fp → b ∈ fp → E.O b = some (.inr k)
  PN : ∀ (k : Nat) (e : SE) (fp : List Nat), S[k]? = some (some e) → E.P[k]? = some fp → fp.Nodup
  own : ∀ (b : Nat) (x : Nat ⊕ Nat), E.O b = some x → b < w.heap.size ∧ (w0.heap.size ≤ b ∨ X.X b) ∧ ¬ E.Z b
  YZ : ∀ b, E.Y b → E.Z b
  Z : ∀ b, E.Z b → b < w.heap.size
  old : ∀ b, b < w0.heap.size → ¬ X.X b → w.heap[b]? = w0.heap[b]?
  size : w0.heap.size ≤ w.heap.size
  os : w.os = w0.os
  tape : w.tape = w0.tape
  output : w.output = w0.output
  dr : w0.drawn ≤ w.drawn
  zin : ∀ b, E.Z b → X.Z0 b ∨ w0.heap.size ≤ b ∨ X.X b
  zup : ∀ b, X.Z0 b → E.Z b
  yin : ∀ b, E.Y b → X.Y0 b ∨ w0.heap.size ≤ b ∨ X.X b
  yup : ∀ b, X.Y0 b → E.Y b
  bup : ∀ (i b : Nat), i < X.nb → X.B0 i = some b → E.B[i]? = some b
  vup : ∀ (k : Nat) (v : Value), k < X.nv → X.V0 k = some v → E.V[k]? = some v
theorem get_snoc {α : Type} {l : List α} {x y : α} {i : Nat} (h : (l ++ [x])[i]? = some y) : l[i]? = some y ∨ (i = l.length ∧ y = x) := by
  rcases Nat.lt_trichotomy i l.length with hi | hi | hi
  · left; rwa [List.getElem?_append_left hi] at h
  · right; subst hi; simp at h; exact ⟨rfl, h.symm⟩
  · rw [List.getElem?_eq_none (by simp; omega)] at h; cases h
theorem get_app {α : Type} {l m : List α} {k : Nat} : (l ++ m)[l.length + k]? = m[k]? := by
  rw [List.getElem?_append_right (by omega)]
  congr 1
  omega
theorem get_left {α : Type} {l m : List α} {i : Nat} {x : α} (h : l[i]? = some x) : (l ++ m)[i]? = some x := by
  rw [List.getElem?_append_left (List.getElem?_eq_some_iff.1 h).1]; exact h
theorem get_set {α : Type} {l : List α} {i j : Nat} {x y : α} (h : (l.set i x)[j]? = some y) : (i = j ∧ y = x ∧ i < l.length) ∨ (i ≠ j ∧ l[j]? = some y) := by
  by_cases hij : i = j
  · subst hij
    have hl : i < l.length := by have := (List.getElem?_eq_some_iff.1 h).1; simpa using this
    simp [hl] at h
    exact .inl ⟨rfl, h.symm, hl⟩
  · rw [List.getElem?_set_ne hij] at h
    exact .inr ⟨hij, h⟩
/-- The world w' has all of w but what lies at the blocks of fp. -/
structure Chg (w w' : World) (fp : Nat → Prop) : Prop where
  size : w.heap.size ≤ w'.heap.size
  block : ∀ b, b < w.heap.size → ¬ fp b → w'.heap[b]? = w.heap[b]?
  os : w'.os = w.os
  tape : w'.tape = w.tape
  output : w'.output = w.output
  dr : w.drawn ≤ w'.drawn
abbrev Stays (w w' : World) : Prop := Chg w w' (fun _ => False)
theorem Chg.mono {w w' : World} {p q : Nat → Prop} (h : Chg w w' p) (hpq : ∀ b, p b → q b) : Chg w w' q := ⟨h.size, fun b hb hq => h.block b hb (fun hp => hq (hpq b hp)), h.os, h.tape, h.output, h.dr⟩
theorem Stays.any {w w' : World} {q : Nat → Prop} (h : Stays w w') : Chg w w' q := h.mono (fun _ h => h.elim)
theorem Stays.drew (w : World) : Stays w w.drew := ⟨Nat.le_refl _, fun _ _ _ => rfl, rfl, rfl, rfl, Nat.le_succ _⟩
theorem Stays.refl (w : World) : Stays w w := ⟨Nat.le_refl _, fun _ _ _ => rfl, rfl, rfl, rfl, Nat.le_refl _⟩
theorem stays_push (w : World) (o : Obj) : Stays w { w with heap := w.heap.push o } :=
  ⟨by simp, fun b hb _ => by simp [Array.getElem?_push, Nat.ne_of_lt hb], rfl, rfl, rfl, Nat.le_refl _⟩
theorem Stays.blk {w w' : World} (h : Stays w w') {b : Nat} (hb : b < w.heap.size) : w'.heap[b]? = w.heap[b]? := h.block b hb (fun h => h)
section
variable {w0 w w' : World} {X : Org} {E E' : Env} {H H' : Hp} {S S' : Sp}
theorem Sat.bB (h : Sat w0 X E H S w) {i b : Nat} (hi : E.B[i]? = some b) : b < w.heap.size ∧ (w0.heap.size ≤ b ∨ X.X b) ∧ ¬ E.Z b := h.own b _ (h.oB i b hi)
theorem Sat.bP (h : Sat w0 X E H S w) {k : Nat} {e : SE} {fp : List Nat} {b : Nat} (hk : S[k]? = some (some e)) (hp : E.P[k]? = some fp) (hb : b ∈ fp) : b < w.heap.size ∧ (w0.heap.size ≤ b ∨ X.X b) ∧ ¬ E.Z b := h.own b _ (h.oP k e fp b hk hp hb)
theorem Sat.BB (h : Sat w0 X E H S w) {i j b : Nat} (hi : E.B[i]? = some b) (hj : E.B[j]? = some b) : i = j := by
  have h1 := h.oB i b hi
  rw [h.oB j b hj] at h1
  simpa using h1.symm
theorem Sat.BP (h : Sat w0 X E H S w) {i b k : Nat} {e : SE} {fp : List Nat} (hi : E.B[i]? = some b) (hk : S[k]? = some (some e)) (hp : E.P[k]? = some fp) : b ∉ fp := fun hb => by
  have h1 := h.oB i b hi
  rw [h.oP k e fp b hk hp hb] at h1
  cases h1
theorem Sat.PP (h : Sat w0 X E H S w) {k l b : Nat} {e e' : SE} {fp fp' : List Nat} (hk : S[k]? = some (some e)) (hl : S[l]? = some (some e')) (hp : E.P[k]? = some fp) (hp' : E.P[l]? = some fp') (hb : b ∈ fp) (hb' : b ∈ fp') : k = l := by
  have h1 := h.oP k e fp b hk hp hb
  rw [h.oP l e' fp' b hl hp' hb'] at h1
  simpa using h1.symm
/-- THE GENERAL STEP: some own blocks (D) turn, memory grows. -/
theorem Sat.step (h : Sat w0 X E H S w) {D : Nat → Prop} (hc : Chg w w' D) (hD : ∀ b, D b → E.O b ≠ none)
    (hY : ∀ b, E'.Y b → E'.Z b) (hY1 : ∀ b, E.Y b → E'.Y b) (hZ1 : ∀ b, E.Z b → E'.Z b) (hY2 : ∀ b, E'.Y b → E.Y b ∨ w0.heap.size ≤ b ∨ X.X b) (hZ2 : ∀ b, E'.Z b → E.Z b ∨ ((w0.heap.size ≤ b ∨ X.X b) ∧ b < w'.heap.size))
    (lB : E'.B.length = H'.length) (lV : E'.V.length = S'.length) (lP : E'.P.length = S'.length)
    (box : ∀ (i : Nat) (t : TypeId) (cs : List AV), H'[i]? = some (some (t, cs)) → ∃ b us, E'.B[i]? = some b ∧ w'.heap[b]? = some (objOf t us) ∧ CL E' w' cs us ∧ ∀ x ∈ us, x.oneCell' = true)
    (sl : ∀ (k : Nat) (e : SE), S'[k]? = some (some e) → ∃ v fp, E'.V[k]? = some v ∧ E'.P[k]? = some fp ∧ OwnE E'.Y E'.Z w' e v fp)
    (oB : ∀ (i b : Nat), E'.B[i]? = some b → E'.O b = some (.inl i))
    (oP : ∀ (k : Nat) (e : SE) (fp : List Nat) (b : Nat), S'[k]? = some (some e) → E'.P[k]? = some fp → b ∈ fp → E'.O b = some (.inr k))
    (PN : ∀ (k : Nat) (e : SE) (fp : List Nat), S'[k]? = some (some e) → E'.P[k]? = some fp → fp.Nodup)
    (hup : ∀ (i b : Nat), E.B[i]? = some b → E'.B[i]? = some b)
    (own : ∀ (b : Nat) (x : Nat ⊕ Nat), E'.O b = some x → (E.O b ≠ none ∨ (w.heap.size ≤ b ∧ b < w'.heap.size)) ∧ (E'.Z b → E.Z b))
    (hvu : ∀ (k : Nat) (v : Value), k < X.nv → E.V[k]? = some v → E'.V[k]? = some v := by exact fun _ _ _ h => h) : Sat w0 X E' H' S' w' := by
  refine ⟨lB, lV, lP, box, sl, oB, oP, PN, ?_, hY, ?_, ?_, Nat.le_trans h.size hc.size, hc.os.trans h.os, hc.tape.trans h.tape, hc.output.trans h.output, Nat.le_trans h.dr hc.dr, ?_, fun b hb => hZ1 b (h.zup b hb), ?_, fun b hb => hY1 b (h.yup b hb), fun i b hi hb => hup i b (h.bup i b hi hb), fun k v hk hv => hvu k v hk (h.vup k v hk hv)⟩
  · intro b x hb
    obtain ⟨h1, h2⟩ := own b x hb
    rcases h1 with h1 | ⟨h1, h3⟩
    · obtain ⟨y, hy⟩ := Option.ne_none_iff_exists'.1 h1
      obtain ⟨k1, k2, k3⟩ := h.own b y hy
      exact ⟨Nat.lt_of_lt_of_le k1 hc.size, k2, fun hz => k3 (h2 hz)⟩
    · exact ⟨h3, .inl (Nat.le_trans h.size h1), fun hz => absurd (h.Z b (h2 hz)) (by omega)⟩
  · intro b hb
    rcases hZ2 b hb with hb | ⟨_, hb⟩
    · exact Nat.lt_of_lt_of_le (h.Z b hb) hc.size
    · exact hb
  · intro b hb hx
    refine (hc.block b (Nat.lt_of_lt_of_le hb h.size) (fun hd => ?_)).trans (h.old b hb hx)
    obtain ⟨y, hy⟩ := Option.ne_none_iff_exists'.1 (hD b hd)
    rcases (h.own b y hy).2.1 with h2 | h2
    · omega
    · exact hx h2
  · intro b hb
    rcases hZ2 b hb with hb | ⟨hb, _⟩
    · exact h.zin b hb
    · exact .inr hb
  · intro b hb
    rcases hY2 b hb with hb | hb
    · exact h.yin b hb
    · exact .inr hb
/-- What is read stands where only own blocks turn. -/
theorem Sat.zkeep (h : Sat w0 X E H S w) {D : Nat → Prop} (hc : Chg w w' D) (hD : ∀ b, D b → E.O b ≠ none) : ∀ b, E.Z b → w'.heap[b]? = w.heap[b]? := fun b hb =>
  hc.block b (h.Z b hb) (fun hd => by
    obtain ⟨y, hy⟩ := Option.ne_none_iff_exists'.1 (hD b hd)
    exact (h.own b y hy).2.2 hb)
theorem Sat.box_stays (h : Sat w0 X E H S w) {D : Nat → Prop} (hc : Chg w w' D) (hD : ∀ b, D b → E.O b ≠ none) (hE : ∀ (x : AV) (u : Value), C E w' x u → C E' w' x u) {i : Nat} {t : TypeId} {cs : List AV} (hi : H[i]? = some (some (t, cs))) (hn : ∀ b, E.B[i]? = some b → ¬ D b) (hB : E'.B[i]? = E.B[i]?) :
    ∃ b us, E'.B[i]? = some b ∧ w'.heap[b]? = some (objOf t us) ∧ CL E' w' cs us ∧ ∀ x ∈ us, x.oneCell' = true := by
  obtain ⟨b, us, h1, h2, h3, h4⟩ := h.box i t cs hi
  refine ⟨b, us, hB.trans h1, (hc.block b (h.bB h1).1 (hn b h1)).trans h2, ?_, h4⟩
  have h3' := CL_mono h.YZ (Env.le_refl E) (h.zkeep hc hD) cs us h3
  refine CL_of (CL_length h3) (fun j x u hx hu => ?_)
  obtain ⟨v, e1, e2⟩ := CL_get h3' hx
  rw [e1] at hu
  cases hu
  exact hE _ _ e2
theorem Sat.sl_stays (h : Sat w0 X E H S w) {D : Nat → Prop} (hc : Chg w w' D) (hD : ∀ b, D b → E.O b ≠ none) {Y Z : Nat → Prop} (hY : ∀ b, E.Y b → Y b) (hZ : ∀ b, E.Z b → Z b) {k : Nat} {e : SE} (hk : S[k]? = some (some e)) (hn : ∀ b fp, E.P[k]? = some fp → b ∈ fp → ¬ D b) :
    ∃ v fp, E.V[k]? = some v ∧ E.P[k]? = some fp ∧ OwnE Y Z w' e v fp := by
  obtain ⟨v, fp, h1, h2, h3⟩ := h.sl k e hk
  exact ⟨v, fp, h1, h2, OwnE_mono hY hZ h.YZ (h.zkeep hc hD) (fun b hb => hc.block b (OwnE_lt h3 b hb) (hn b fp h2 hb)) h3⟩
/-- More memory, the old as it was. -/
theorem Sat.stays (h : Sat w0 X E H S w) (hs : Stays w w') : Sat w0 X E H S w' :=
  h.step hs (fun _ h => h.elim) h.YZ (fun _ h => h) (fun _ h => h) (fun _ h => .inl h) (fun _ h => .inl h) h.lB h.lV h.lP
    (fun i t cs hi => h.box_stays hs (fun _ h => h.elim) (fun _ _ h => h) hi (fun _ _ h => h) rfl)
    (fun k e hk => h.sl_stays hs (fun _ h => h.elim) (fun _ h => h) (fun _ h => h) hk (fun _ _ _ _ h => h)) h.oB h.oP h.PN (fun _ _ h => h) (fun b x hb => ⟨.inl (by rw [hb]; simp), fun h => h⟩)
theorem CL_ext {E' : Env} (hyz : ∀ b, E.Y b → E.Z b) (h : E.le E') {cs : List AV} {us : List Value} (k : CL E w cs us) : CL E' w cs us := CL_mono hyz h (fun _ _ => rfl) cs us k
theorem C_ext {E' : Env} (hyz : ∀ b, E.Y b → E.Z b) (h : E.le E') {x : AV} {u : Value} (k : C E w x u) : C E' w x u := C_mono hyz h (fun _ _ => rfl) x u k
abbrev Env.withB (E : Env) (b : Nat) : Env := { E with B := E.B ++ [b], O := fun x => if x = b then some (.inl E.B.length) else E.O x }
theorem le_B (E : Env) (b : Nat) : E.le (E.withB b) := ⟨fun i x h => get_left h, fun _ _ h => h, fun _ h => h, fun _ h => h⟩
abbrev Env.withV (E : Env) (v : Value) (fp : List Nat) : Env := { E with V := E.V ++ [v], P := E.P ++ [fp], O := fun x => if x ∈ fp then some (.inr E.V.length) else E.O x }
theorem le_V (E : Env) (v : Value) (fp : List Nat) : E.le (E.withV v fp) := ⟨fun _ _ h => h, fun i x h => get_left h, fun _ h => h, fun _ h => h⟩
/-- A new block of the call's own. -/
theorem Sat.new (h : Sat w0 X E H S w) {t : TypeId} {cs : List AV} {us : List Value} (hc : CL E w cs us) (h1 : ∀ x ∈ us, x.oneCell' = true) :
    Sat w0 X (E.withB w.heap.size) (H ++ [some (t, cs)]) S { w with heap := w.heap.push (objOf t us) } := by
  have hs := stays_push w (objOf t us)
  have hle := le_B E w.heap.size
  have nO : ∀ b x, E.O b = some x → b ≠ w.heap.size := fun b x hx e => absurd (h.own b x hx).1 (by omega)
  refine h.step hs (fun _ h => h.elim) h.YZ (fun _ h => h) (fun _ h => h) (fun _ h => .inl h) (fun _ h => .inl h) (by simp [h.lB]) h.lV h.lP ?_ ?_ ?_ ?_ h.PN (fun i b h => get_left h) ?_
  · intro i t' cs' hi
    rcases get_snoc hi with hi | ⟨rfl, he⟩
    · refine h.box_stays hs (fun _ h => h.elim) (fun _ _ k => C_ext h.YZ hle k) hi (fun _ _ h => h) ?_
      have : i < E.B.length := by rw [h.lB]; exact (List.getElem?_eq_some_iff.1 hi).1
      exact List.getElem?_append_left this
    · simp only [Option.some.injEq, Prod.mk.injEq] at he
      obtain ⟨rfl, rfl⟩ := he
      exact ⟨w.heap.size, us, by simp [← h.lB], by simp, CL_ext h.YZ hle (CL_mono h.YZ (Env.le_refl E) (fun b hb => hs.blk (h.Z b hb)) _ _ hc), h1⟩
  · exact fun k e hk => h.sl_stays hs (fun _ h => h.elim) (fun _ h => h) (fun _ h => h) hk (fun _ _ _ _ h => h)
  · intro i b hi
    rcases get_snoc hi with hi | ⟨rfl, rfl⟩
    · have := h.oB i b hi
      show (if b = w.heap.size then _ else _) = _
      rw [if_neg (nO b _ this)]; exact this
    · show (if w.heap.size = w.heap.size then _ else _) = _
      rw [if_pos rfl]
  · intro k e fp b hk hp hb
    have := h.oP k e fp b hk hp hb
    show (if b = w.heap.size then _ else _) = _
    rw [if_neg (nO b _ this)]; exact this
  · intro b x hb
    refine ⟨?_, fun h => h⟩
    have hb' : (if b = w.heap.size then some (.inl E.B.length) else E.O b) = some x := hb
    split at hb'
    · rename_i e; right; subst e; simp
    · left; rw [hb']; simp
/-- A box is written. -/
theorem Sat.upd (h : Sat w0 X E H S w) {i b : Nat} {t : TypeId} {cs cs' : List AV} {us' : List Value} (hi : H[i]? = some (some (t, cs))) (hb : E.B[i]? = some b) (hc : Chg w w' (fun x => x = b))
    (hbk : w'.heap[b]? = some (objOf t us')) (hcl : CL E w cs' us') (h1 : ∀ x ∈ us', x.oneCell' = true) : Sat w0 X E (H.set i (some (t, cs'))) S w' := by
  have hD : ∀ x, x = b → E.O x ≠ none := fun x e => by subst e; rw [h.oB i x hb]; simp
  refine h.step hc hD h.YZ (fun _ h => h) (fun _ h => h) (fun _ h => .inl h) (fun _ h => .inl h) (by simp [h.lB]) h.lV h.lP ?_ ?_ h.oB h.oP h.PN (fun _ _ h => h) (fun b x hb => ⟨.inl (by rw [hb]; simp), fun h => h⟩)
  · intro j t' ds hj
    rcases get_set hj with ⟨rfl, he, _⟩ | ⟨hne, hj⟩
    · simp only [Option.some.injEq, Prod.mk.injEq] at he
      obtain ⟨rfl, rfl⟩ := he
      exact ⟨b, us', hb, hbk, CL_mono h.YZ (Env.le_refl E) (h.zkeep hc hD) _ _ hcl, h1⟩
    · exact h.box_stays hc hD (fun _ _ k => k) hj (fun x hx e => hne (h.BB hb (e ▸ hx))) rfl
  · exact fun k e hk => h.sl_stays hc hD (fun _ h => h) (fun _ h => h) hk (fun x fp hp hx e => h.BP hb hk hp (e ▸ hx))
/-- A new slice of the call's own; everything else stays. -/
theorem Sat.newV (h : Sat w0 X E H S w) (hs : Stays w w') {e : SE} {v : Value} {fp : List Nat} (ho : OwnE E.Y E.Z w' e v fp) (hnd : fp.Nodup) (hv : ∀ b ∈ fp, w.heap.size ≤ b) :
    Sat w0 X (E.withV v fp) H (S ++ [some e]) w' := by
  have hle := le_V E v fp
  have nO : ∀ b x, E.O b = some x → b ∉ fp := fun b x hx e => absurd (h.own b x hx).1 (by have := hv b e; omega)
  refine h.step hs (fun _ h => h.elim) h.YZ (fun _ h => h) (fun _ h => h) (fun _ h => .inl h) (fun _ h => .inl h) h.lB (by simp [h.lV]) (by simp [h.lP]) ?_ ?_ ?_ ?_ ?_ (fun _ _ h => h) ?_ (fun _ _ _ h => get_left h)
  · exact fun i t ds hi => h.box_stays hs (fun _ h => h.elim) (fun _ _ k => C_ext h.YZ hle k) hi (fun _ _ h => h) rfl
  · intro k e' hk
    rcases get_snoc hk with hk | ⟨rfl, he⟩
    · obtain ⟨u, f, k1, k2, k3⟩ := h.sl_stays hs (fun _ h => h.elim) (fun _ h => h) (fun _ h => h) hk (fun _ _ _ _ h => h)
      exact ⟨u, f, get_left k1, get_left k2, k3⟩
    · simp only [Option.some.injEq] at he
      subst he
      exact ⟨v, fp, by simp [← h.lV], by simp [← h.lP], ho⟩
  · intro i b hi
    have := h.oB i b hi
    show (if b ∈ fp then _ else _) = _
    rw [if_neg (nO b _ this)]; exact this
  · intro k e' f b hk hp hb
    rcases get_snoc hk with hk | ⟨rfl, he⟩
    · have hl : k < E.P.length := by rw [h.lP]; exact (List.getElem?_eq_some_iff.1 hk).1
      have hp' : E.P[k]? = some f := by
        have : (E.P ++ [fp])[k]? = some f := hp
        rwa [List.getElem?_append_left hl] at this
      have := h.oP k e' f b hk hp' hb
      show (if b ∈ fp then _ else _) = _
      rw [if_neg (nO b _ this)]; exact this
    · have : f = fp := by simpa [← h.lP] using hp.symm
      subst this
      show (if b ∈ f then _ else _) = _
      rw [if_pos hb, h.lV]
  · intro k e' f hk hp
    rcases get_snoc hk with hk | ⟨rfl, he⟩
    · have hl : k < E.P.length := by rw [h.lP]; exact (List.getElem?_eq_some_iff.1 hk).1
      have hp' : E.P[k]? = some f := by
        have : (E.P ++ [fp])[k]? = some f := hp
        rwa [List.getElem?_append_left hl] at this
      exact h.PN k e' f hk hp'
    · have : f = fp := by simpa [← h.lP] using hp.symm
      subst this
      exact hnd
  · intro b x hb
    refine ⟨?_, fun h => h⟩
    have hb' : (if b ∈ fp then some (.inr E.V.length) else E.O b) = some x := hb
    split at hb'
    · rename_i hm; exact .inr ⟨hv b hm, OwnE_lt ho b hm⟩
    · left; rw [hb']; simp
end
end Go.Proofs.Ytmocggibcniggaa.Kw
namespace Go.Proofs.Ytmocggibcniggaa.Kw
open Go
/-! ### a slice takes another value: what spoke of it is forgotten -/
mutual
def noK (k : Nat) : AV → Bool
  | .r _ => true
  | .box _ _ => true
  | .sl j => !Nat.beq j k
  | .el j _ _ _ => !Nat.beq j k
  | .ss j _ _ _ => !Nat.beq j k
  | .cap j => !Nat.beq j k
  | .capLe j _ => !Nat.beq j k
  | .capGt j _ => !Nat.beq j k
  | .agg cs => noKL k cs
  | .tup cs => noKL k cs
  | .fn _ cs => noKL k cs
  | .junk => true
def noKL (k : Nat) : List AV → Bool
  | [] => true
  | c :: cs => noK k c && noKL k cs
end
mutual
/-- As noK, but what hangs on the slice's memory alone stays. -/
def noS (k : Nat) : AV → Bool
  | .sl j => !Nat.beq j k
  | .agg cs => noSL k cs
  | .tup cs => noSL k cs
  | .fn _ cs => noSL k cs
  | _ => true
def noSL (k : Nat) : List AV → Bool
  | [] => true
  | c :: cs => noS k c && noSL k cs
end
def cutP (p : AV → Bool) (x : AV) : AV := match p x with
  | true => x
  | false => .junk
def cutFP (p : AV → Bool) : Fr → Fr
  | [] => []
  | (d, x) :: F => (d, cutP p x) :: cutFP p F
def cutLP (p : AV → Bool) : List AV → List AV
  | [] => []
  | x :: F => cutP p x :: cutLP p F
def cutHP (p : AV → Bool) : Hp → Hp
  | [] => []
  | none :: H => none :: cutHP p H
  | some (t, cs) :: H => some (t, cutLP p cs) :: cutHP p H
abbrev cutF (k : Nat) : Fr → Fr := cutFP (noK k)
abbrev cutH (k : Nat) : Hp → Hp := cutHP (noK k)
abbrev cutSF (k : Nat) : Fr → Fr := cutFP (noS k)
abbrev cutSH (k : Nat) : Hp → Hp := cutHP (noS k)
theorem ne_of_nbeq {j k : Nat} (h : (!Nat.beq j k) = true) : j ≠ k := by
  rintro rfl
  simp [Nat.beq_refl] at h
section
variable {E E' : Env} {w : World} {k : Nat} {v v' : Value}
theorem set_get {α : Type} {l l' : List α} {j k : Nat} {x y : α} (hV : l' = l.set k y) (hj : j ≠ k) (h : l[j]? = some x) : l'[j]? = some x := by
  rw [hV, List.getElem?_set_ne (Ne.symm hj)]; exact h
mutual
theorem C_setV (hB : E'.B = E.B) (hV : E'.V = E.V.set k v') (hY : E'.Y = E.Y) (hZ : E'.Z = E.Z) : ∀ (x : AV) (u : Value), noK k x = true → C E w x u → C E' w x u
  | .r x, u, _, h => by unfold C at h ⊢; rw [hY, hZ]; exact h
  | .box i off, u, _, h => by unfold C at h ⊢; rw [hB]; exact h
  | .sl j, u, hn, h => by unfold C at h ⊢; exact ⟨set_get hV (ne_of_nbeq hn) h.1, h.2⟩
  | .el j sz i off, u, hn, h => by unfold C at h ⊢; obtain ⟨b, n, c, h1, h2⟩ := h; exact ⟨b, n, c, set_get hV (ne_of_nbeq hn) h1, h2⟩
  | .ss j sz i n, u, hn, h => by unfold C at h ⊢; obtain ⟨A, l, c, h1, h2⟩ := h; exact ⟨A, l, c, set_get hV (ne_of_nbeq hn) h1, h2⟩
  | .cap j, u, hn, h => by unfold C at h ⊢; obtain ⟨A, l, c, h1, h2⟩ := h; exact ⟨A, l, c, set_get hV (ne_of_nbeq hn) h1, h2⟩
  | .capLe j N, u, hn, h => by unfold C at h ⊢; obtain ⟨A, l, c, h1, h2⟩ := h; exact ⟨A, l, c, set_get hV (ne_of_nbeq hn) h1, h2⟩
  | .capGt j N, u, hn, h => by unfold C at h ⊢; obtain ⟨A, l, c, h1, h2⟩ := h; exact ⟨A, l, c, set_get hV (ne_of_nbeq hn) h1, h2⟩
  | .agg cs, u, hn, h => by unfold C at h ⊢; obtain ⟨us, h1, h2, h3⟩ := h; exact ⟨us, h1, CL_setV hB hV hY hZ cs us hn h2, h3⟩
  | .tup cs, u, hn, h => by unfold C at h ⊢; obtain ⟨us, h1, h2⟩ := h; exact ⟨us, h1, CL_setV hB hV hY hZ cs us hn h2⟩
  | .fn f cs, u, hn, h => by unfold C at h ⊢; obtain ⟨us, h1, h2⟩ := h; exact ⟨us, h1, CL_setV hB hV hY hZ cs us hn h2⟩
  | .junk, u, _, h => by unfold C; exact trivial
theorem CL_setV (hB : E'.B = E.B) (hV : E'.V = E.V.set k v') (hY : E'.Y = E.Y) (hZ : E'.Z = E.Z) : ∀ (xs : List AV) (us : List Value), noKL k xs = true → CL E w xs us → CL E' w xs us
  | [], us, _, h => by unfold CL at h ⊢; exact h
  | c :: cs, us, hn, h => by
    unfold CL at h ⊢
    unfold noKL at hn
    rw [Bool.and_eq_true] at hn
    obtain ⟨u, r, h1, h2, h3⟩ := h
    exact ⟨u, r, h1, C_setV hB hV hY hZ c u hn.1 h2, CL_setV hB hV hY hZ cs r hn.2 h3⟩
end
/-- One slice value lies where another one lies. -/
def SameBase (v v' : Value) : Prop := ∃ A n n' c, v = .slice A n c ∧ v' = .slice A n' c
theorem base_get {v v' : Value} {l l' : List Value} {j k : Nat} {A : Option Addr} {n c : Nat} (hv : l[k]? = some v) (hV : l' = l.set k v') (hs : SameBase v v') (h : l[j]? = some (.slice A n c)) : ∃ n', l'[j]? = some (.slice A n' c) := by
  by_cases hj : j = k
  · subst hj
    obtain ⟨A', m, m', c', rfl, rfl⟩ := hs
    rw [hv] at h
    cases h
    exact ⟨m', by rw [hV, List.getElem?_set_self (List.getElem?_eq_some_iff.1 hv).1]⟩
  · exact ⟨n, set_get hV hj h⟩
mutual
theorem C_setB (hB : E'.B = E.B) (hv : E.V[k]? = some v) (hs : SameBase v v') (hV : E'.V = E.V.set k v') (hY : E'.Y = E.Y) (hZ : E'.Z = E.Z) : ∀ (x : AV) (u : Value), noS k x = true → C E w x u → C E' w x u
  | .r x, u, _, h => by unfold C at h ⊢; rw [hY, hZ]; exact h
  | .box i off, u, _, h => by unfold C at h ⊢; rw [hB]; exact h
  | .sl j, u, hn, h => by unfold C at h ⊢; exact ⟨set_get hV (ne_of_nbeq hn) h.1, h.2⟩
  | .el j sz i off, u, hn, h => by unfold C at h ⊢; obtain ⟨b, n, c, h1, h2⟩ := h; obtain ⟨n', h3⟩ := base_get hv hV hs h1; exact ⟨b, n', c, h3, h2⟩
  | .ss j sz i n, u, hn, h => by unfold C at h ⊢; obtain ⟨A, l, c, h1, h2⟩ := h; obtain ⟨n', h3⟩ := base_get hv hV hs h1; exact ⟨A, n', c, h3, h2⟩
  | .cap j, u, hn, h => by unfold C at h ⊢; obtain ⟨A, l, c, h1, h2⟩ := h; obtain ⟨n', h3⟩ := base_get hv hV hs h1; exact ⟨A, n', c, h3, h2⟩
  | .capLe j N, u, hn, h => by unfold C at h ⊢; obtain ⟨A, l, c, h1, h2⟩ := h; obtain ⟨n', h3⟩ := base_get hv hV hs h1; exact ⟨A, n', c, h3, h2⟩
  | .capGt j N, u, hn, h => by unfold C at h ⊢; obtain ⟨A, l, c, h1, h2⟩ := h; obtain ⟨n', h3⟩ := base_get hv hV hs h1; exact ⟨A, n', c, h3, h2⟩
  | .agg cs, u, hn, h => by unfold C at h ⊢; obtain ⟨us, h1, h2, h3⟩ := h; exact ⟨us, h1, CL_setB hB hv hs hV hY hZ cs us hn h2, h3⟩
  | .tup cs, u, hn, h => by unfold C at h ⊢; obtain ⟨us, h1, h2⟩ := h; exact ⟨us, h1, CL_setB hB hv hs hV hY hZ cs us hn h2⟩
  | .fn f cs, u, hn, h => by unfold C at h ⊢; obtain ⟨us, h1, h2⟩ := h; exact ⟨us, h1, CL_setB hB hv hs hV hY hZ cs us hn h2⟩
  | .junk, u, _, h => by unfold C; exact trivial
theorem CL_setB (hB : E'.B = E.B) (hv : E.V[k]? = some v) (hs : SameBase v v') (hV : E'.V = E.V.set k v') (hY : E'.Y = E.Y) (hZ : E'.Z = E.Z) : ∀ (xs : List AV) (us : List Value), noSL k xs = true → CL E w xs us → CL E' w xs us
  | [], us, _, h => by unfold CL at h ⊢; exact h
  | c :: cs, us, hn, h => by
    unfold CL at h ⊢
    unfold noSL at hn
    rw [Bool.and_eq_true] at hn
    obtain ⟨u, r, h1, h2, h3⟩ := h
    exact ⟨u, r, h1, C_setB hB hv hs hV hY hZ c u hn.1 h2, CL_setB hB hv hs hV hY hZ cs r hn.2 h3⟩
end
/-- What a cut keeps holds on. -/
def Keeps (E E' : Env) (p : AV → Bool) : Prop := ∀ (w : World) (x : AV) (u : Value), p x = true → C E w x u → C E' w x u
theorem keepsK (hB : E'.B = E.B) (hV : E'.V = E.V.set k v') (hY : E'.Y = E.Y) (hZ : E'.Z = E.Z) : Keeps E E' (noK k) := fun w => C_setV hB hV hY hZ
theorem keepsS (hB : E'.B = E.B) (hv : E.V[k]? = some v) (hs : SameBase v v') (hV : E'.V = E.V.set k v') (hY : E'.Y = E.Y) (hZ : E'.Z = E.Z) : Keeps E E' (noS k) := fun w => C_setB hB hv hs hV hY hZ
variable {p : AV → Bool}
theorem C_cut (hk : Keeps E E' p) {x : AV} {u : Value} (h : C E w x u) : C E' w (cutP p x) u := by
  unfold cutP
  cases hn : p x with
  | true => exact hk w x u hn h
  | false => unfold C; exact trivial
theorem CL_cut (hk : Keeps E E' p) : ∀ {xs : List AV} {us : List Value}, CL E w xs us → CL E' w (cutLP p xs) us
  | [], us, h => by unfold CL at h; subst h; show CL _ w [] _; unfold CL; rfl
  | c :: cs, us, h => by
    unfold CL at h
    obtain ⟨u, r, h1, h2, h3⟩ := h
    show CL _ w (cutP p c :: cutLP p cs) us
    unfold CL
    exact ⟨u, r, h1, C_cut hk h2, CL_cut hk h3⟩
theorem cutF_get : ∀ {F : Fr} {d : Nat} {y : AV}, Fr.get (cutFP p F) d = some y → ∃ x, Fr.get F d = some x ∧ y = cutP p x
  | [], d, y, h => by simp [cutFP, Fr.get] at h
  | (d', x) :: F, d, y, h => by
    simp only [cutFP, Fr.get] at h ⊢
    cases hd : Nat.beq d' d with
    | true => rw [hd] at h; simp at h; exact ⟨x, rfl, h.symm⟩
    | false => rw [hd] at h; exact cutF_get h
theorem cutH_length : ∀ (H : Hp), (cutHP p H).length = H.length
  | [] => rfl
  | none :: H => by simp [cutHP, cutH_length H]
  | some (t, cs) :: H => by simp [cutHP, cutH_length H]
theorem cutH_get : ∀ {H : Hp} {i : Nat} {t : TypeId} {ds : List AV}, (cutHP p H)[i]? = some (some (t, ds)) → ∃ cs, H[i]? = some (some (t, cs)) ∧ ds = cutLP p cs
  | [], i, t, ds, h => by simp [cutHP] at h
  | none :: H, i, t, ds, h => by
    cases i with
    | zero => simp [cutHP] at h
    | succ i => simp only [cutHP, List.getElem?_cons_succ] at h ⊢; exact cutH_get h
  | some (t', cs) :: H, i, t, ds, h => by
    cases i with
    | zero => simp [cutHP] at h; obtain ⟨rfl, rfl⟩ := h; exact ⟨cs, by simp, rfl⟩
    | succ i => simp only [cutHP, List.getElem?_cons_succ] at h ⊢; exact cutH_get h
end
section
variable {w0 w w' : World} {X : Org} {E : Env} {H : Hp} {S : Sp}
theorem set_same {α : Type} : ∀ {l : List α} {i : Nat} {x : α}, l[i]? = some x → l.set i x = l
  | [], i, x, h => by simp at h
  | y :: l, i, x, h => by
    cases i with
    | zero => simp at h; subst h; rfl
    | succ i => simp at h; rw [List.set_cons_succ, set_same h]
/-- The environment in which slice k has another value. -/
abbrev Env.setE (E : Env) (k : Nat) (v : Value) (fp : List Nat) : Env := { E with V := E.V.set k v, P := E.P.set k fp, O := fun x => if x ∈ fp then some (.inr k) else E.O x }
/-- SLICE k TAKES ANOTHER VALUE. It may take over the blocks of slices that are told no longer (T). -/
theorem Sat.setE (h : Sat w0 X E H S w) {p : AV → Bool} {T : Nat → Prop} {S' : Sp} {k : Nat} {e e' : SE} {v v' : Value} {fp fp' : List Nat} (hk : S[k]? = some (some e)) (hv : E.V[k]? = some v) (hp : E.P[k]? = some fp)
    (hc : Chg w w' (fun b => b ∈ fp)) (hb : ∀ b ∈ fp', b ∈ fp ∨ w.heap.size ≤ b ∨ T b) (hT : ∀ b, T b → E.O b ≠ none ∧ ∀ i, E.O b ≠ some (.inl i)) (hT' : ∀ b, T b → ∀ l f e, S'[l]? = some (some e) → E.P[l]? = some f → b ∈ f → l = k) (hnd : fp'.Nodup) (ho : OwnE E.Y E.Z w' e' v' fp')
    (hl : S'.length = S.length) (hk' : S'[k]? = some (some e')) (hS : ∀ l x, l ≠ k → S'[l]? = some (some x) → S[l]? = some (some x)) (hkeep : Keeps E (E.setE k v' fp') p) (hnv : X.nv ≤ k ∨ v' = v) : Sat w0 X (E.setE k v' fp') (cutHP p H) S' w' := by
  have hkl : k < S.length := (List.getElem?_eq_some_iff.1 hk).1
  have hD : ∀ b, b ∈ fp → E.O b ≠ none := fun b hb => by rw [h.oP k e fp b hk hp hb]; simp
  refine h.step hc hD h.YZ (fun _ h => h) (fun _ h => h) (fun _ h => .inl h) (fun _ h => .inl h) (by rw [cutH_length]; exact h.lB) (by simp [h.lV, hl]) (by simp [h.lP, hl]) ?_ ?_ ?_ ?_ ?_ (fun _ _ h => h) ?_ ?hvu
  case hvu =>
    intro l u hl' hu
    show (E.V.set k v')[l]? = some u
    rcases hnv with hnv | rfl
    · rw [List.getElem?_set_ne (by omega)]; exact hu
    · rw [set_same hv]; exact hu
  · intro i t ds hi
    obtain ⟨cs, hi0, rfl⟩ := cutH_get hi
    obtain ⟨b, us, k1, k2, k3, k4⟩ := h.box_stays hc hD (fun _ _ k => k) hi0 (fun b hb => h.BP hb hk hp) rfl
    exact ⟨b, us, k1, k2, CL_cut hkeep k3, k4⟩
  · intro j ej hj
    by_cases hjk : j = k
    · subst hjk
      rw [hk'] at hj
      cases hj
      refine ⟨v', fp', ?_, ?_, ho⟩
      · show (E.V.set j v')[j]? = some v'
        rw [List.getElem?_set_self (by rw [h.lV]; exact hkl)]
      · show (E.P.set j fp')[j]? = some fp'
        rw [List.getElem?_set_self (by rw [h.lP]; exact hkl)]
    · have hj0 := hS j ej hjk hj
      obtain ⟨u, f, k1, k2, k3⟩ := h.sl_stays hc hD (fun _ h => h) (fun _ h => h) hj0 (fun b f hf hb hb' => hjk (h.PP hj0 hk hf hp hb hb'))
      exact ⟨u, f, set_get rfl hjk k1, set_get rfl hjk k2, k3⟩
  · intro i b hi
    have := h.oB i b hi
    show (if b ∈ fp' then _ else _) = _
    rw [if_neg (fun hm => ?_)]; exact this
    rcases hb b hm with hm | hm | hm
    · exact h.BP hi hk hp hm
    · have := (h.bB hi).1; omega
    · exact (hT b hm).2 i this
  · intro j ej f b hj hf hbf
    show (if b ∈ fp' then _ else _) = _
    by_cases hjk : j = k
    · subst hjk
      have hf' : (E.P.set j fp')[j]? = some f := hf
      rw [List.getElem?_set_self (by rw [h.lP]; exact hkl)] at hf'
      cases hf'
      rw [if_pos hbf]
    · have hj0 := hS j ej hjk hj
      have hf' : (E.P.set k fp')[j]? = some f := hf
      rw [List.getElem?_set_ne (Ne.symm hjk)] at hf'
      have := h.oP j ej f b hj0 hf' hbf
      rw [if_neg (fun hm => ?_)]; exact this
      rcases hb b hm with hm | hm | hm
      · exact hjk (h.PP hj0 hk hf' hp hbf hm)
      · have := (h.bP hj0 hf' hbf).1; omega
      · exact hjk (hT' b hm j f ej hj hf' hbf)
  · intro j ej f hj hf
    by_cases hjk : j = k
    · subst hjk
      have hf' : (E.P.set j fp')[j]? = some f := hf
      rw [List.getElem?_set_self (by rw [h.lP]; exact hkl)] at hf'
      cases hf'
      exact hnd
    · have hf' : (E.P.set k fp')[j]? = some f := hf
      rw [List.getElem?_set_ne (Ne.symm hjk)] at hf'
      exact h.PN j ej f (hS j ej hjk hj) hf'
  · intro b x hx
    refine ⟨?_, fun h => h⟩
    have hx' : (if b ∈ fp' then some (.inr k) else E.O b) = some x := hx
    split at hx'
    · rename_i hm
      rcases hb b hm with h1 | h1 | h1
      · exact .inl (hD b h1)
      · exact .inr ⟨h1, OwnE_lt ho b hm⟩
      · exact .inl (hT b h1).1
    · left; rw [hx']; simp
/-- The same, nothing taken over. -/
theorem Sat.setV (h : Sat w0 X E H S w) {p : AV → Bool} {k : Nat} {e e' : SE} {v v' : Value} {fp fp' : List Nat} (hk : S[k]? = some (some e)) (hv : E.V[k]? = some v) (hp : E.P[k]? = some fp)
    (hc : Chg w w' (fun b => b ∈ fp)) (hb : ∀ b ∈ fp', b ∈ fp ∨ w.heap.size ≤ b) (hnd : fp'.Nodup) (ho : OwnE E.Y E.Z w' e' v' fp') (hkeep : Keeps E (E.setE k v' fp') p) (hnv : X.nv ≤ k ∨ v' = v) : Sat w0 X (E.setE k v' fp') (cutHP p H) (S.set k (some e')) w' := by
  have hkl : k < S.length := (List.getElem?_eq_some_iff.1 hk).1
  refine h.setE (T := fun _ => False) hk hv hp hc (fun b hm => (hb b hm).elim .inl (fun h => .inr (.inl h))) (fun _ h => h.elim) (fun _ h => h.elim) hnd ho (by simp) (by rw [List.getElem?_set_self hkl]) (fun l x hl hx => ?_) hkeep hnv
  rwa [List.getElem?_set_ne (Ne.symm hl)] at hx
def allP : AV → Bool := fun _ => true
theorem cutLP_all : ∀ (l : List AV), cutLP allP l = l
  | [] => rfl
  | x :: l => by unfold cutLP; rw [cutLP_all l]; rfl
theorem cutHP_all : ∀ (H : Hp), cutHP allP H = H
  | [] => rfl
  | none :: H => by unfold cutHP; rw [cutHP_all H]
  | some (t, cs) :: H => by unfold cutHP; rw [cutHP_all H, cutLP_all]
theorem keepsAll {E E' : Env} (hyz : ∀ b, E.Y b → E.Z b) (h : E.le E') : Keeps E E' allP := fun w x u _ hx => C_mono hyz h (fun _ _ => rfl) x u hx
theorem keepsPO {E : Env} (hyz : ∀ b, E.Y b → E.Z b) {k : Nat} {v : Value} (hv : E.V[k]? = some v) (fp : List Nat) : Keeps E (E.setE k v fp) allP :=
  keepsAll hyz ⟨fun _ _ h => h, fun i b h => by show (E.V.set k v)[i]? = some b; rw [set_same hv]; exact h, fun _ h => h, fun _ h => h⟩
/-- An own slice's places are written: its value is as it was. -/
theorem Sat.updV (h : Sat w0 X E H S w) {k : Nat} {e e' : SE} {v : Value} {fp fp' : List Nat} (hk : S[k]? = some (some e)) (hv : E.V[k]? = some v) (hp : E.P[k]? = some fp)
    (hc : Chg w w' (fun b => b ∈ fp)) (hb : ∀ b ∈ fp', b ∈ fp ∨ w.heap.size ≤ b) (hnd : fp'.Nodup) (ho : OwnE E.Y E.Z w' e' v fp') : Sat w0 X (E.setE k v fp') H (S.set k (some e')) w' := by
  have := h.setV hk hv hp hc hb hnd ho (keepsPO h.YZ hv fp') (.inr rfl)
  rwa [cutHP_all] at this
end
/-! ### a slice is frozen for good -/
def frz : RV → RV
  | .os _ sz L => .fs sz L
  | x => x
def frzL : List RV → List RV
  | [] => []
  | c :: cs => frz c :: frzL cs
def frzLL : List (List RV) → List (List RV)
  | [] => []
  | r :: L => frzL r :: frzLL L
def frzE (e : SE) : List (List RV) := match e.ns with
  | false => e.L
  | true => frzLL e.L
mutual
def fzA (k : Nat) (x : RV) : AV → AV
  | .sl j => match Nat.beq j k with
    | true => .r x
    | false => .sl j
  | .agg cs => .agg (fzL k x cs)
  | .tup cs => .tup (fzL k x cs)
  | .fn f cs => .fn f (fzL k x cs)
  | y => y
def fzL (k : Nat) (x : RV) : List AV → List AV
  | [] => []
  | c :: cs => fzA k x c :: fzL k x cs
end
def fzF (k : Nat) (x : RV) : Fr → Fr
  | [] => []
  | (d, y) :: F => (d, fzA k x y) :: fzF k x F
def fzH (k : Nat) (x : RV) : Hp → Hp
  | [] => []
  | none :: H => none :: fzH k x H
  | some (t, cs) :: H => some (t, fzL k x cs) :: fzH k x H
theorem frzL_length : ∀ (l : List RV), (frzL l).length = l.length
  | [] => rfl
  | _ :: l => by unfold frzL; simp [frzL_length l]
theorem frzLL_length : ∀ (l : List (List RV)), (frzLL l).length = l.length
  | [] => rfl
  | _ :: l => by unfold frzLL; simp [frzLL_length l]
section
variable {Y Z Y' Z' : Nat → Prop} {w : World}
theorem RL_CAt {b : Nat} : ∀ {xs : List RV} {us : List Value} {o : Nat}, RL Y Z w xs us → (∀ (j : Nat) (u : Value), us[j]? = some u → w.cell? ⟨b, o + j, none⟩ = some u) → CAt Y Z w xs b o
  | [], us, o, _, _ => by unfold CAt; trivial
  | x :: xs, us, o, h, hc => by
    unfold RL at h
    obtain ⟨u, r, rfl, h2, h3⟩ := h
    unfold CAt
    refine ⟨⟨u, by simpa using hc 0 u (by simp), h2⟩, RL_CAt h3 (fun j v hv => ?_)⟩
    rw [show o + 1 + j = o + (j + 1) from by omega]
    exact hc (j + 1) v (by simpa using hv)
theorem Rows_CRows {b sz : Nat} : ∀ {L : List (List RV)} {us : List Value} {o : Nat}, Rows Y Z w sz L us → (∀ (j : Nat) (u : Value), us[j]? = some u → w.cell? ⟨b, o + j, none⟩ = some u) → CRows Y Z w sz L b o
  | [], us, o, _, _ => by unfold CRows; trivial
  | r :: L, us, o, h, hc => by
    unfold Rows at h
    obtain ⟨x, y, rfl, h2, h3, h4⟩ := h
    have hl := RL_length h3
    unfold CRows
    refine ⟨h2, RL_CAt h3 (fun j u hu => hc j u (get_left hu)), Rows_CRows h4 (fun j u hu => ?_)⟩
    rw [show o + sz + j = o + (x.length + j) from by omega]
    exact hc (x.length + j) u (get_app.trans hu)
/-- A slice whose cells stand so is read so. -/
theorem own_fs {e : TypeId} {sz : Nat} {v : Value} {L : List (List RV)} {cs : List Value} (h : w.ownsRow 0 e sz v L.length cs) (hY : ∀ b, v.ownBlock = some b → Y b) (hr : ∀ b, v.ownBlock = some b → (∀ (j : Nat) (u : Value), cs[j]? = some u → w.cell? ⟨b, 0 + j, none⟩ = some u) → CRows Y Z w sz L b 0) : CR Y Z w (.fs sz L) v := by
  unfold CR
  rcases own_cells h with ⟨rfl, h5⟩ | ⟨b, cap, rfl, h5, h6, h7, h8⟩
  · exact ⟨none, 0, by rw [h5], by omega, by simp [maxLen], .inl (List.eq_nil_of_length_eq_zero h5)⟩
  · exact ⟨_, cap, rfl, h5, h6, .inr ⟨b, 0, rfl, hY b rfl, hr b rfl (fun j u hu => by rw [Nat.zero_add]; exact h8 j u hu)⟩⟩
section
variable (hY : ∀ b, Y b → Y' b) (hZ : ∀ b, Z b → Z' b) (hyz : ∀ b, Y b → Z b)
include hY hZ hyz
theorem OR_frz {x : RV} {u : Value} {fp : List Nat} (hf : ∀ b ∈ fp, Y' b) (h : OR Y Z w x u fp) : CR Y' Z' w (frz x) u := by
  cases x with
  | os e sz L =>
    obtain ⟨cs, h1, h2, rfl⟩ := h
    exact own_fs h1 (fun b hb => hf b (by simp [hb])) (fun b hb hc => Rows_CRows (Rows_mono hY hZ hyz (fun _ _ => rfl) h2) hc)
  | _ => exact CR_mono hY hZ hyz (fun _ _ => rfl) _ _ h.1
theorem ORL_frz : ∀ {xs : List RV} {us : List Value} {fp : List Nat} {b o : Nat}, (∀ b ∈ fp, Y' b) → (∀ (j : Nat) (u : Value), us[j]? = some u → w.cell? ⟨b, o + j, none⟩ = some u) → ORL Y Z w xs us fp → CAt Y' Z' w (frzL xs) b o
  | [], us, fp, b, o, _, _, h => by unfold frzL CAt; trivial
  | x :: xs, us, fp, b, o, hf, hc, h => by
    unfold ORL at h
    obtain ⟨u, r, f, g, rfl, h2, h3, rfl⟩ := h
    unfold frzL CAt
    refine ⟨⟨u, by simpa using hc 0 u (by simp), OR_frz hY hZ hyz (fun b hb => hf b (by simp [hb])) h2⟩, ORL_frz (fun b hb => hf b (by simp [hb])) (fun j v hv => ?_) h3⟩
    rw [show o + 1 + j = o + (j + 1) from by omega]
    exact hc (j + 1) v (by simpa using hv)
theorem ORows_frz {sz : Nat} : ∀ {L : List (List RV)} {us : List Value} {fp : List Nat} {b o : Nat}, (∀ b ∈ fp, Y' b) → (∀ (j : Nat) (u : Value), us[j]? = some u → w.cell? ⟨b, o + j, none⟩ = some u) → ORows Y Z w sz L us fp → CRows Y' Z' w sz (frzLL L) b o
  | [], us, fp, b, o, _, _, h => by unfold frzLL CRows; trivial
  | r :: L, us, fp, b, o, hf, hc, h => by
    unfold ORows at h
    obtain ⟨x, y, f, g, rfl, h2, h3, h4, rfl⟩ := h
    have hl := ORL_length h3
    unfold frzLL CRows
    refine ⟨(frzL_length r).trans h2, ORL_frz hY hZ hyz (fun b hb => hf b (by simp [hb])) (fun j u hu => hc j u (get_left hu)) h3, ORows_frz (fun b hb => hf b (by simp [hb])) (fun j u hu => ?_) h4⟩
    rw [show o + sz + j = o + (x.length + j) from by omega]
    exact hc (x.length + j) u (get_app.trans hu)
/-- What is owned may be read as frozen, where Y' holds all its blocks. -/
theorem OwnE_frz {e : SE} {v : Value} {fp : List Nat} (hf : ∀ b ∈ fp, Y' b) (h : OwnE Y Z w e v fp) : CR Y' Z' w (.fs e.sz (frzE e)) v := by
  unfold frzE
  cases hn : e.ns with
  | false =>
    obtain ⟨cs, h1, h2, rfl⟩ := (OwnE_flat hn).1 h
    exact own_fs h1 (fun b hb => hf b (by simp [hb])) (fun b hb hc => Rows_CRows (Rows_mono hY hZ hyz (fun _ _ => rfl) h2) hc)
  | true =>
    obtain ⟨cs, f, h1, h2, rfl⟩ := (OwnE_nest hn).1 h
    have h1' : w.ownsRow 0 e.e e.sz v (frzLL e.L).length cs := by rw [frzLL_length]; exact h1
    exact own_fs h1' (fun b hb => hf b (by simp [hb])) (fun b hb hc => ORows_frz hY hZ hyz (fun b hb => hf b (by simp [hb])) hc h2)
end
end
section
variable {E E' : Env} {w : World} {k : Nat} {v : Value} {x : RV}
mutual
theorem C_fz (hyz : ∀ b, E.Y b → E.Z b) (hE : E.le E') (hv : E.V[k]? = some v) (hx : CR E'.Y E'.Z w x v) : ∀ (y : AV) (u : Value), C E w y u → C E' w (fzA k x y) u
  | .sl j, u, h => by
    unfold fzA
    cases hj : Nat.beq j k with
    | true =>
      have := Nat.eq_of_beq_eq_true hj
      subst this
      unfold C at h
      rw [hv] at h
      obtain ⟨h, _⟩ := h
      cases h
      unfold C
      exact hx
    | false => exact C_ext hyz hE h
  | .agg cs, u, h => by unfold fzA C; unfold C at h; obtain ⟨us, h1, h2, h3⟩ := h; exact ⟨us, h1, CL_fz hyz hE hv hx cs us h2, h3⟩
  | .tup cs, u, h => by unfold fzA C; unfold C at h; obtain ⟨us, h1, h2⟩ := h; exact ⟨us, h1, CL_fz hyz hE hv hx cs us h2⟩
  | .fn f cs, u, h => by unfold fzA C; unfold C at h; obtain ⟨us, h1, h2⟩ := h; exact ⟨us, h1, CL_fz hyz hE hv hx cs us h2⟩
  | .r y, u, h => by unfold fzA; exact C_ext hyz hE h
  | .box i o, u, h => by unfold fzA; exact C_ext hyz hE h
  | .el _ _ _ _, u, h => by unfold fzA; exact C_ext hyz hE h
  | .ss _ _ _ _, u, h => by unfold fzA; exact C_ext hyz hE h
  | .cap _, u, h => by unfold fzA; exact C_ext hyz hE h
  | .capLe _ _, u, h => by unfold fzA; exact C_ext hyz hE h
  | .capGt _ _, u, h => by unfold fzA; exact C_ext hyz hE h
  | .junk, u, h => by unfold fzA; exact C_ext hyz hE h
theorem CL_fz (hyz : ∀ b, E.Y b → E.Z b) (hE : E.le E') (hv : E.V[k]? = some v) (hx : CR E'.Y E'.Z w x v) : ∀ (ys : List AV) (us : List Value), CL E w ys us → CL E' w (fzL k x ys) us
  | [], us, h => by unfold fzL; unfold CL at h ⊢; exact h
  | c :: cs, us, h => by
    unfold CL at h
    obtain ⟨u, r, h1, h2, h3⟩ := h
    unfold fzL CL
    exact ⟨u, r, h1, C_fz hyz hE hv hx c u h2, CL_fz hyz hE hv hx cs r h3⟩
end
theorem fzF_get : ∀ {F : Fr} {d : Nat} {y : AV}, Fr.get (fzF k x F) d = some y → ∃ z, Fr.get F d = some z ∧ y = fzA k x z
  | [], d, y, h => by simp [fzF, Fr.get] at h
  | (d', z) :: F, d, y, h => by
    simp only [fzF, Fr.get] at h ⊢
    cases hd : Nat.beq d' d with
    | true => rw [hd] at h; simp at h; exact ⟨z, rfl, h.symm⟩
    | false => rw [hd] at h; exact fzF_get h
theorem fzH_length : ∀ (H : Hp), (fzH k x H).length = H.length
  | [] => rfl
  | none :: H => by simp [fzH, fzH_length H]
  | some (t, cs) :: H => by simp [fzH, fzH_length H]
theorem fzH_get : ∀ {H : Hp} {i : Nat} {t : TypeId} {ds : List AV}, (fzH k x H)[i]? = some (some (t, ds)) → ∃ cs, H[i]? = some (some (t, cs)) ∧ ds = fzL k x cs
  | [], i, t, ds, h => by simp [fzH] at h
  | none :: H, i, t, ds, h => by
    cases i with
    | zero => simp [fzH] at h
    | succ i => simp only [fzH, List.getElem?_cons_succ] at h ⊢; exact fzH_get h
  | some (t', cs) :: H, i, t, ds, h => by
    cases i with
    | zero => simp [fzH] at h; obtain ⟨rfl, rfl⟩ := h; exact ⟨cs, by simp, rfl⟩
    | succ i => simp only [fzH, List.getElem?_cons_succ] at h ⊢; exact fzH_get h
end
section
variable {w0 w w' : World} {X : Org} {E : Env} {H : Hp} {S : Sp}
abbrev Env.frozen (E : Env) (fp : List Nat) : Env := { E with Y := fun b => E.Y b ∨ b ∈ fp, Z := fun b => E.Z b ∨ b ∈ fp, O := fun b => if b ∈ fp then none else E.O b }
/-- SLICE k IS FROZEN (it was made by this call). -/
theorem Sat.freeze (h : Sat w0 X E H S w) {k : Nat} {e : SE} {v : Value} {fp : List Nat} (hk : S[k]? = some (some e)) (hv : E.V[k]? = some v) (hp : E.P[k]? = some fp) (ho : OwnE E.Y E.Z w e v fp) :
    Sat w0 X (E.frozen fp) (fzH k (.fs e.sz (frzE e)) H) (S.set k none) w ∧ CR (E.frozen fp).Y (E.frozen fp).Z w (.fs e.sz (frzE e)) v ∧ E.le (E.frozen fp) := by
  have hle : E.le (E.frozen fp) := ⟨fun _ _ h => h, fun _ _ h => h, fun _ h => .inl h, fun _ h => .inl h⟩
  have hcr : CR (E.frozen fp).Y (E.frozen fp).Z w (.fs e.sz (frzE e)) v := by
    exact OwnE_frz (Y' := (E.frozen fp).Y) (Z' := (E.frozen fp).Z) hle.Y hle.Z h.YZ (fun b hb => .inr hb) ho
  refine ⟨?_, hcr, hle⟩
  have hSg : ∀ l x, (S.set k none)[l]? = some (some x) → l ≠ k ∧ S[l]? = some (some x) := fun l x hx => by
    rcases get_set hx with ⟨_, hx, _⟩ | ⟨hne, hx⟩
    · cases hx
    · exact ⟨Ne.symm hne, hx⟩
  have hst := Stays.refl w
  refine h.step hst (fun _ h => h.elim) ?_ hle.Y hle.Z ?_ ?_ (by rw [fzH_length]; exact h.lB) (by simp [h.lV]) (by simp [h.lP]) ?_ ?_ ?_ ?_ ?_ (fun _ _ h => h) ?_
  · intro b hb
    rcases hb with hb | hb
    · exact .inl (h.YZ b hb)
    · exact .inr hb
  · intro b hb
    rcases hb with hb | hb
    · exact .inl hb
    · exact .inr (h.bP hk hp hb).2.1
  · intro b hb
    rcases hb with hb | hb
    · exact .inl hb
    · exact .inr ⟨(h.bP hk hp hb).2.1, OwnE_lt ho b hb⟩
  · intro i t ds hi
    obtain ⟨cs, hi0, rfl⟩ := fzH_get hi
    obtain ⟨b, us, k1, k2, k3, k4⟩ := h.box i t cs hi0
    exact ⟨b, us, k1, k2, CL_fz h.YZ hle hv hcr cs us k3, k4⟩
  · intro l x hl
    obtain ⟨hne, hl'⟩ := hSg l x hl
    obtain ⟨u, f, k1, k2, k3⟩ := h.sl_stays hst (fun _ h => h.elim) hle.Y hle.Z hl' (fun _ _ _ _ h => h)
    exact ⟨u, f, k1, k2, k3⟩
  · intro i b hi
    show (if b ∈ fp then none else E.O b) = _
    rw [if_neg (h.BP hi hk hp)]; exact h.oB i b hi
  · intro l x f b hl hf hb
    obtain ⟨hne, hl'⟩ := hSg l x hl
    show (if b ∈ fp then none else E.O b) = _
    rw [if_neg (fun hm => hne (h.PP hl' hk hf hp hb hm))]
    exact h.oP l x f b hl' hf hb
  · exact fun l x f hl hf => h.PN l x f (hSg l x hl).2 hf
  · intro b x hx
    have hx' : (if b ∈ fp then none else E.O b) = some x := hx
    split at hx'
    · cases hx'
    · rename_i hm
      exact ⟨.inl (by rw [hx']; simp), fun hz => hz.elim id (fun h => absurd h hm)⟩
end
end Go.Proofs.Ytmocggibcniggaa.Kw
namespace Go.Proofs.Ytmocggibcniggaa.Kw
open Go
/-! ### what is known of types -/
structure Ty where
  agg : Bool
  size : Nat
  bytes : Nat
  zero : List Value
  fields : List (Nat × Nat × Bool)
  elem : Option TypeId
  ik : Option IntKind
  bl : Bool
  pt : Bool
  feq : Bool
def isAggD : TypeDesc → Bool
  | .struct _ => true
  | .array _ _ => true
  | _ => false
def tyFields (P : Program) : List Field → Option (List (Nat × Nat × Bool))
  | [] => some []
  | f :: fs => match P.info? f.type, P.underlying f.type, tyFields P fs with
    | some i, some d, some r => some ((f.offset, i.size, isAggD d) :: r)
    | _, _, _ => none
/-- Are two values of the type equal just where their cells are? (numbers and Bools, in structs) -/
def eqOk (P : Program) : Nat → TypeId → Bool
  | 0, _ => false
  | d + 1, t => match P.underlying t with
    | some (.int _) => true
    | some .bool => true
    | some (.struct fs) => !P.stoodInHeld t && fs.toList.all fun f => f.name != "_" && eqOk P d f.type
    | _ => false
def contig (P : Program) (tot : Nat) : Nat → List Field → Bool
  | o, [] => Nat.beq o tot
  | o, f :: fs => Nat.beq f.offset o && contig P tot (o + P.cellsOf f.type) fs
def okT (P : Program) : Nat → TypeId → Bool
  | 0, _ => false
  | n + 1, t => match P.underlying t with
    | some (.int _) => Nat.beq (P.cellsOf t) 1
    | some .bool => Nat.beq (P.cellsOf t) 1
    | some .string => Nat.beq (P.cellsOf t) 1
    | some (.slice e) => Nat.beq (P.cellsOf t) 1 && okT P n e && Nat.ble 1 (P.cellsOf e)
    | some (.struct fs) => contig P (P.cellsOf t) 0 fs.toList && fs.toList.all fun f => okT P n f.type
    | _ => false
def flatEq (P : Program) (t : TypeId) : Bool := eqOk P 6 t && okT P 6 t && !P.eqGuardType P.depth t
def tyOf (P : Program) (t : TypeId) : Option Ty := match P.underlying t, P.info? t with
  | some d, some i => match i.zero with
    | some z => match d with
      | .struct fs => match tyFields P fs.toList with
        | some r => some ⟨true, i.size, i.bytes, z.cells.toList, r, none, none, false, false, flatEq P t⟩
        | none => none
      | .slice e => some ⟨false, i.size, i.bytes, z.cells.toList, [], some e, none, false, false, false⟩
      | .int k => some ⟨false, i.size, i.bytes, z.cells.toList, [], none, some k, false, false, false⟩
      | .bool => some ⟨false, i.size, i.bytes, z.cells.toList, [], none, none, true, false, false⟩
      | .pointer _ => some ⟨false, i.size, i.bytes, z.cells.toList, [], none, none, false, true, false⟩
      | d => some ⟨isAggD d, i.size, i.bytes, z.cells.toList, [], none, none, false, false, false⟩
    | none => none
  | _, _ => none
abbrev Tab := List (TypeId × Ty)
def Tab.get : Tab → TypeId → Option Ty
  | [], _ => none
  | (d, x) :: F, n => match Nat.beq d n with
    | true => some x
    | false => Tab.get F n
def TabOk (P : Program) (T : Tab) : Prop := ∀ t y, T.get t = some y → tyOf P t = some y
theorem TabOk.nil (P : Program) : TabOk P [] := fun _ _ h => by cases h
theorem TabOk.cons {P : Program} {T : Tab} {t : TypeId} {y : Ty} (h : tyOf P t = some y) (hT : TabOk P T) : TabOk P ((t, y) :: T) := by
  intro t' y' h'
  unfold Tab.get at h'
  cases hb : Nat.beq t t' with
  | true =>
    rw [hb] at h'
    simp at h'
    have : t = t' := Nat.eq_of_beq_eq_true hb
    subst this; subst h'
    exact h
  | false => rw [hb] at h'; exact hT t' y' h'
section
variable {P : Program} {t : TypeId} {y : Ty}
theorem tyOf_zero (h : tyOf P t = some y) : ∃ i z, P.info? t = some i ∧ i.size = y.size ∧ i.bytes = y.bytes ∧ i.zero = some z ∧ z.cells.toList = y.zero := by
  unfold tyOf at h
  split at h
  · rename_i d i hd hi
    split at h
    · rename_i z hz
      refine ⟨i, z, hi, ?_⟩
      split at h
      · split at h
        · cases h; exact ⟨rfl, rfl, hz, rfl⟩
        · cases h
      · cases h; exact ⟨rfl, rfl, hz, rfl⟩
      · cases h; exact ⟨rfl, rfl, hz, rfl⟩
      · cases h; exact ⟨rfl, rfl, hz, rfl⟩
      · cases h; exact ⟨rfl, rfl, hz, rfl⟩
      · cases h; exact ⟨rfl, rfl, hz, rfl⟩
    · cases h
  · cases h
theorem tyOf_agg (h : tyOf P t = some y) : ∃ d, P.underlying t = some d ∧ isAggD d = y.agg := by
  unfold tyOf at h
  split at h
  · rename_i d i hd hi
    refine ⟨d, hd, ?_⟩
    split at h
    · split at h <;> first | (cases h; rfl) | (split at h <;> cases h; rfl)
    · cases h
  · cases h
theorem tyOf_elem (h : tyOf P t = some y) {e : TypeId} (he : y.elem = some e) : P.underlying t = some (.slice e) := by
  unfold tyOf at h
  split at h
  · rename_i d i hd hi
    split at h
    · split at h <;> first | (cases h; cases he; exact hd) | (cases h; cases he; done) | (split at h <;> cases h; cases he)
    · cases h
  · cases h
theorem tyOf_ik (h : tyOf P t = some y) {k : IntKind} (he : y.ik = some k) : P.underlying t = some (.int k) := by
  unfold tyOf at h
  split at h
  · rename_i d i hd hi
    split at h
    · split at h <;> first | (cases h; cases he; exact hd) | (cases h; cases he; done) | (split at h <;> cases h; cases he)
    · cases h
  · cases h
theorem tyOf_bl (h : tyOf P t = some y) (he : y.bl = true) : P.underlying t = some .bool := by
  unfold tyOf at h
  split at h
  · rename_i d i hd hi
    split at h
    · split at h <;> first | (cases h; cases he; done) | (cases h; exact hd) | (split at h <;> cases h; cases he)
    · cases h
  · cases h
theorem tyOf_pt (h : tyOf P t = some y) (he : y.pt = true) : ∃ e, P.underlying t = some (.pointer e) := by
  unfold tyOf at h
  split at h
  · rename_i d i hd hi
    split at h
    · split at h <;> first | (cases h; cases he; done) | (cases h; exact ⟨_, hd⟩) | (split at h <;> cases h; cases he)
    · cases h
  · cases h
theorem tyFields_get {P : Program} : ∀ {fs : List Field} {r : List (Nat × Nat × Bool)}, tyFields P fs = some r → ∀ {j : Nat} {q}, r[j]? = some q → ∃ f i d, fs[j]? = some f ∧ f.offset = q.1 ∧ P.info? f.type = some i ∧ i.size = q.2.1 ∧ P.underlying f.type = some d ∧ isAggD d = q.2.2
  | [], r, h, j, q, hq => by simp [tyFields] at h; subst h; simp at hq
  | f :: fs, r, h, j, q, hq => by
    unfold tyFields at h
    split at h
    · rename_i i d r' hi hd hr
      cases h
      cases j with
      | zero => simp at hq; subst hq; exact ⟨f, i, d, by simp, rfl, hi, rfl, hd, rfl⟩
      | succ j => simp at hq; obtain ⟨f', i', d', k⟩ := tyFields_get hr hq; exact ⟨f', i', d', by simpa using k⟩
    · cases h
theorem tyOf_field (h : tyOf P t = some y) {j : Nat} {q : Nat × Nat × Bool} (hq : y.fields[j]? = some q) : ∃ fs f i d, P.underlying t = some (.struct fs) ∧ fs[j]? = some f ∧ f.offset = q.1 ∧ P.info? f.type = some i ∧ i.size = q.2.1 ∧ P.underlying f.type = some d ∧ isAggD d = q.2.2 := by
  unfold tyOf at h
  split at h
  · rename_i d i hd hi
    split at h
    · split at h
      · rename_i fs
        split at h
        · rename_i r hr
          cases h
          obtain ⟨f, i', d', h1, h2⟩ := tyFields_get hr hq
          exact ⟨fs, f, i', d', hd, by simpa using h1, h2⟩
        · cases h
      all_goals (cases h; simp at hq)
    · cases h
  · cases h
end
/-! ### operands -/
def ev (F : Fr) : Operand → Option AV
  | .tmp t => F.get t
  | .const v => match v.oneCell' with
    | true => some (.r (.v v))
    | false => none
  | .func f => some (.fn f [])
  | .global _ => none
structure Fits (E : Env) (w : World) (F : Fr) (a : Act) : Prop where
  get : ∀ (d : Nat) (x : AV), F.get d = some x → ∃ u, a.tmps[d]? = some u ∧ C E w x u
theorem Fits.ev {E : Env} {w : World} {F : Fr} {a : Act} (h : Fits E w F a) : ∀ {o : Operand} {x : AV}, ev F o = some x → C E w x (a.eval o)
  | .tmp t, x, hx => by
    obtain ⟨u, h1, h2⟩ := h.get t x hx
    have : a.eval (.tmp t) = u := by simp [Act.eval, Array.getD_eq_getD_getElem?, h1]
    rw [this]; exact h2
  | .const v, x, hx => by
    unfold Kw.ev at hx
    cases hv : v.oneCell' with
    | true =>
      simp only [hv] at hx
      cases hx
      unfold C CR
      exact ⟨rfl, hv⟩
    | false => simp only [hv] at hx; cases hx
  | .func f, x, hx => by
    unfold Kw.ev at hx
    cases hx
    unfold C
    exact ⟨[], rfl, by unfold CL; rfl⟩
  | .global g, x, hx => by
    unfold Kw.ev at hx
    cases hx
theorem Fits.mono {E E' : Env} {w w' : World} {F : Fr} {a : Act} (h : Fits E w F a) (hyz : ∀ b, E.Y b → E.Z b) (hE : E.le E') (hw : ∀ b, E.Z b → w'.heap[b]? = w.heap[b]?) : Fits E' w' F a :=
  ⟨fun d x hx => by obtain ⟨u, h1, h2⟩ := h.get d x hx; exact ⟨u, h1, C_mono hyz hE hw x u h2⟩⟩
theorem Fits.put {E : Env} {w : World} {F : Fr} {a : Act} (h : Fits E w F a) {d : Nat} {x : AV} {u : Value} (hx : C E w x u) (hd : Nat.blt d a.tmps.size = true) : Fits E w ((d, x) :: F) (a.put (some d) u) := by
  have hd' : d < a.tmps.size := Nat.le_of_ble_eq_true hd
  refine ⟨fun n y hy => ?_⟩
  unfold Fr.get at hy
  cases hb : Nat.beq d n with
  | true =>
    rw [hb] at hy
    simp at hy
    have : d = n := Nat.eq_of_beq_eq_true hb
    subst this; subst hy
    exact ⟨u, by simp [Act.put, hd'], hx⟩
  | false =>
    rw [hb] at hy
    obtain ⟨v, h1, h2⟩ := h.get n y hy
    have hne : d ≠ n := by rintro rfl; simp [Nat.beq_refl] at hb
    exact ⟨v, by simp [Act.put, Array.getElem?_setIfInBounds_ne hne, h1], h2⟩
theorem put_size (a : Act) (d : Option Nat) (v : Value) : (a.put d v).tmps.size = a.tmps.size ∧ (a.put d v).defers = a.defers := by
  cases d <;> simp [Act.put]
/-! ### operations that only reckon -/
def evs (F : Fr) : List Operand → Option (List AV)
  | [] => some []
  | o :: os => match ev F o, evs F os with
    | some x, some xs => some (x :: xs)
    | _, _ => none
theorem Fits.evs {E : Env} {w : World} {F : Fr} {a : Act} (h : Fits E w F a) : ∀ {os : List Operand} {xs : List AV}, Kw.evs F os = some xs → CL E w xs (os.map a.eval)
  | [], xs, hx => by cases hx; unfold CL; rfl
  | o :: os, xs, hx => by
    unfold Kw.evs at hx
    split at hx
    · rename_i x ys h1 h2
      cases hx
      unfold CL
      exact ⟨_, _, rfl, h.ev h1, h.evs h2⟩
    · cases hx
def i_ (k : IntKind) (n : Int) : AV := .r (.v (.int k n))
def b_ (b : Bool) : AV := .r (.v (.bool b))
@[irreducible] def wr (k : IntKind) (n : Int) : Int := k.wrap n
@[irreducible] def ltB (x y : Int) : Bool := decide (x < y)
@[irreducible] def leB (x y : Int) : Bool := decide (x ≤ y)
@[irreducible] def eqB (x y : Int) : Bool := x == y
@[irreducible] def notB (x : Bool) : Bool := !x
@[irreducible] def beqB (x y : Bool) : Bool := x == y
theorem wr_eq (k : IntKind) (n : Int) : wr k n = k.wrap n := by unfold wr; rfl
theorem ltB_eq (x y : Int) : ltB x y = decide (x < y) := by unfold ltB; rfl
theorem leB_eq (x y : Int) : leB x y = decide (x ≤ y) := by unfold leB; rfl
theorem eqB_eq (x y : Int) : eqB x y = (x == y) := by unfold eqB; rfl
theorem notB_eq (x : Bool) : notB x = !x := by unfold notB; rfl
theorem beqB_eq (x y : Bool) : beqB x y = (x == y) := by unfold beqB; rfl
/-- int's sums stay where they fit. -/
theorem wr_i64 {n : Int} (h : -9223372036854775808 ≤ n) (h' : n ≤ 9223372036854775807) : wr .i64 n = n := by
  rw [wr_eq, IntKind.wrap_i64]
  have := Go.RowKit.wrap64
  omega
@[irreducible] def qt (x y : Int) : Int := x.tdiv y
@[irreducible] def rm (x y : Int) : Int := x.tmod y
theorem qt_eq (x y : Int) : qt x y = x.tdiv y := by unfold qt; rfl
theorem rm_eq (x y : Int) : rm x y = x.tmod y := by unfold rm; rfl
/-- Of a number that is not below nought. -/
theorem rm_pos {x y : Int} (h : 0 ≤ x) : rm x y = x % y := by rw [rm_eq, Int.tmod_eq_emod_of_nonneg h]
theorem qt_pos {x y : Int} (h : 0 ≤ x) : qt x y = x / y := by rw [qt_eq, Int.tdiv_eq_ediv_of_nonneg h]
def nz : Int → Bool
  | .ofNat 0 => false
  | _ => true
theorem nz_ne {x : Int} (h : nz x = true) : x ≠ 0 := by rintro rfl; cases h
def intOp : BinOp → IntKind → Int → Int → Option AV
  | .quo, k, x, y => match nz y with
    | true => some (.r (.v (.int k (wr k (qt x y)))))
    | false => none
  | .rem, k, x, y => match nz y with
    | true => some (.r (.v (.int k (rm x y))))
    | false => none
  | .add, k, x, y => some (.r (.v (.int k (wr k (x + y)))))
  | .sub, k, x, y => some (.r (.v (.int k (wr k (x - y)))))
  | .mul, k, x, y => some (.r (.v (.int k (wr k (x * y)))))
  | .eql, _, x, y => some (.r (.v (.bool (eqB x y))))
  | .neq, _, x, y => some (.r (.v (.bool (notB (eqB x y)))))
  | .lss, _, x, y => some (.r (.v (.bool (ltB x y))))
  | .leq, _, x, y => some (.r (.v (.bool (leB x y))))
  | .gtr, _, x, y => some (.r (.v (.bool (ltB y x))))
  | .geq, _, x, y => some (.r (.v (.bool (leB y x))))
  | .and, k, x, y => some (.r (.v (.int k (Go.bits .and k x y))))
  | .or, k, x, y => some (.r (.v (.int k (Go.bits .or k x y))))
  | _, _, _, _ => none
def kindEq : IntKind → IntKind → Bool
  | .i8, .i8 | .i16, .i16 | .i32, .i32 | .i64, .i64 | .u8, .u8 | .u16, .u16 | .u32, .u32 | .u64, .u64 => true
  | _, _ => false
theorem kindEq_eq {a b : IntKind} (h : kindEq a b = true) : a = b := by cases a <;> cases b <;> first | rfl | (simp [kindEq] at h)
end Go.Proofs.Ytmocggibcniggaa.Kw
namespace Go.Proofs.Ytmocggibcniggaa.Kw
open Go
def setFrom : List AV → Nat → List AV → List AV
  | cells, _, [] => cells
  | cells, off, c :: cs => setFrom (cells.set off c) (off + 1) cs
def cellA : AV → Bool
  | .agg _ => false
  | .tup _ => false
  | .junk => false
  | _ => true
def aggOf : AV → Option (List AV)
  | .agg cs => some cs
  | _ => none
def fillA (fs : List (Nat × Nat × Bool)) : List AV → List (Nat × AV) → Option (List AV)
  | cells, [] => some cells
  | cells, (i, x) :: r => match fs[i]? with
    | some (off, sz, _) => match aggOf x with
      | some cs => match Nat.beq cs.length sz && Nat.ble (off + sz) cells.length with
        | true => fillA fs (setFrom cells off cs) r
        | false => none
      | none => match cellA x && Nat.beq sz 1 && Nat.ble (off + 1) cells.length with
        | true => fillA fs (cells.set off x) r
        | false => none
    | none => none
def evp (F : Fr) : List (Nat × Operand) → Option (List (Nat × AV))
  | [] => some []
  | (i, o) :: os => match ev F o, evp F os with
    | some x, some xs => some ((i, x) :: xs)
    | _, _ => none
def raw : List Value → List AV
  | [] => []
  | v :: vs => .r (.v v) :: raw vs
def allOne : List Value → Bool
  | [] => true
  | v :: vs => v.oneCell' && allOne vs
def lenA (S : Sp) : AV → Option Nat
  | .r (.rs _ L) => some L.length
  | .r (.fs _ L) => some L.length
  | .ss _ _ _ n => some n
  | .r (.v (.slice none n _)) => some n
  | .sl k => match S[k]? with
    | some (some e) => some e.L.length
    | _ => none
  | _ => none
@[irreducible] def mm (mx : Bool) (x y : Int) : Int := match mx with
  | true => if x < y then y else x
  | false => if y < x then y else x

/-- Is a pointer nil? -/
def ptN : AV → Option Bool
  | .box _ o => match isMo o with
    | true => none
    | false => some false
  | .el _ _ _ _ => some false
  | .r (.ro _) => some false
  | .r (.v (.pointer none)) => some true
  | _ => none
def ptEq : Bool → Bool → Option Bool
  | true, b => some b
  | a, true => some a
  | false, false => none
def pureVal (T : Tab) (S : Sp) (F : Fr) : Op → Option AV
  | .move x => ev F x
  | .assign x => ev F x
  | .pick c a b => match ev F c with
    | some (.r (.v (.bool true))) => ev F a
    | some (.r (.v (.bool false))) => ev F b
    | _ => none
  | .unOp op _ x => match op, ev F x with
    | .not, some (.r (.v (.bool b))) => some (.r (.v (.bool (notB b))))
    | .neg, some (.r (.v (.int k n))) => some (.r (.v (.int k (wr k (0 - n)))))
    | _, _ => none
  | .binOp op t x y _ => match ev F x with
    | some (.r (.v (.int k p))) => match ev F y with
      | some (.r (.v (.int k' q))) => match kindEq k k' with
        | true => intOp op k p q
        | false => none
      | _ => none
    | some (.r (.v (.bool p))) => match ev F y with
      | some (.r (.v (.bool q))) => match T.get t with
        | some yt => match yt.bl, op with
          | true, .eql => some (.r (.v (.bool (beqB p q))))
          | true, .neq => some (.r (.v (.bool (notB (beqB p q)))))
          | _, _ => none
        | none => none
      | _ => none
    | some p => match ptN p, (ev F y).bind ptN, T.get t, op with
      | some a, some b, some yt, .eql => match yt.pt with
        | true => (ptEq a b).map fun z => .r (.v (.bool z))
        | false => none
      | some a, some b, some yt, .neq => match yt.pt with
        | true => (ptEq a b).map fun z => .r (.v (.bool (!z)))
        | false => none
      | _, _, _, _ => none
    | _ => none
  | .convert s d x => match T.get s, T.get d, ev F x with
    | some _, some y, some (.r (.v (.int _ n))) => match y.ik with
      | some k => some (.r (.v (.int k (wr k n))))
      | none => none
    | _, _, _ => none
  | .field t x j => match T.get t, ev F x with
    | some y, some (.agg cs) => match y.fields[j]? with
      | some (off, sz, true) => some (.agg ((cs.drop off).take sz))
      | some (off, _, false) => cs[off]?
      | none => none
    | _, _ => none
  | .fieldAddr t x j => match T.get t, ev F x with
    | some y, some p => match y.fields[j]? with
      | some (off, sz, _) => match Nat.beq sz 0 with
        | true => none
        | false => match p with
          | .box i o => match isMo o || isMo (o + off) with
            | true => none
            | false => some (.box i (o + off))
          | .r (.ro cs) => some (.r (.ro (cs.drop off)))
          | .el k z i o => some (.el k z i (o + off))
          | _ => none
      | none => none
    | _, _ => none
  | .nilCheck x => match ev F x with
    | some (.box i o) => match isMo o with
      | true => none
      | false => some (.box i o)
    | some (.r (.ro cs)) => some (.r (.ro cs))
    | some (.el k z i o) => some (.el k z i o)
    | some (.fn f cs) => some (.fn f cs)
    | _ => none
  | .build t ps => match T.get t, evp F ps.toList with
    | some y, some xs => match y.agg && !y.fields.isEmpty && allOne y.zero with
      | true => match fillA y.fields (raw y.zero) xs with
        | some cs => some (.agg cs)
        | none => none
      | false => none
    | _, _ => none
  | .extract x j => match ev F x with
    | some (.tup xs) => xs[j]?
    | _ => none
  | .makeFunc fn first captured => match fn, first.toList with
    | .func f, [] => match evs F captured.toList with
      | some cs => some (.fn f cs)
      | none => none
    | _, _ => none
  | .call c => match c.callee, c.args.toList, c.argTypes.toList with
    | .builtin .len, [x], [t] => match T.get t, ev F x with
      | some y, some v => match y.elem with
        | some _ => match lenA S v with
          | some n => some (.r (.v (.int .i64 n)))
          | none => none
        | none => none
      | _, _ => none
    | .builtin .max, [x, y], _ => match ev F x, ev F y with
      | some (.r (.v (.int k p))), some (.r (.v (.int k' q))) => match kindEq k k' with
        | true => some (.r (.v (.int k (mm true p q))))
        | false => none
      | _, _ => none
    | .builtin .min, [x, y], _ => match ev F x, ev F y with
      | some (.r (.v (.int k p))), some (.r (.v (.int k' q))) => match kindEq k k' with
        | true => some (.r (.v (.int k (mm false p q))))
        | false => none
      | _, _ => none
    | _, _, _ => none
  | _ => none
end Go.Proofs.Ytmocggibcniggaa.Kw
namespace Go.Proofs.Ytmocggibcniggaa.Kw
open Go
section
variable {P : Program} {T : Tab} {E : Env} {w : World} {F : Fr} {a : Act} {S : Sp} {r : AV}
theorem C_v {x : Value} {u : Value} (h : C E w (.r (.v x)) u) : u = x := by unfold C CR at h; exact h.1
theorem C_v_mk {x : Value} (h : x.oneCell' = true) : C E w (.r (.v x)) x := by unfold C CR; exact ⟨rfl, h⟩
theorem mm_max (p q : Int) : (if q > p then q else p) = mm true p q := by unfold mm; by_cases h : p < q <;> simp [h]
theorem mm_min (p q : Int) : (if q < p then q else p) = mm false p q := by unfold mm; rfl
/-- The answer u to o in every world. -/
def Ans (P : Program) (a : Act) (o : Oper) (u : Value) : Prop := ∀ w', (execOp a.eval o).run P w' = .ok (.value u) w'
theorem ans_v {o : Oper} {u : Value} {s : Sem Value} (he : execOp a.eval o = (do pure (.value (← s)))) (hs : ∀ w', s.run P w' = .ok u w') : Ans P a o u := by
  intro w'
  rw [he]
  simp [hs]
theorem run_underlying_ {t : TypeId} {d : TypeDesc} (h : P.underlying t = some d) (w' : World) : (underlying t).run P w' = .ok d w' := by
  simp [underlying, h]
theorem run_typeInfo_ {t : TypeId} {i : TypeInfo} (h : P.info? t = some i) (w' : World) : (typeInfo t).run P w' = .ok i w' := by
  simp [typeInfo, h]
theorem run_sizeOf_ {t : TypeId} {i : TypeInfo} (h : P.info? t = some i) (w' : World) : (Go.sizeOf t).run P w' = .ok i.size w' := by
  simp [Go.sizeOf, run_typeInfo_ h]
theorem run_isAgg_ {t : TypeId} {d : TypeDesc} (h : P.underlying t = some d) (w' : World) : (isAgg t).run P w' = .ok (isAggD d) w' := by
  unfold isAgg
  simp only [Sem.run_bind, run_underlying_ h, Result.andThen_ok]
  cases d <;> rfl
theorem run_zero_ {t : TypeId} {i : TypeInfo} {z : Value} (h : P.info? t = some i) (hz : i.zero = some z) (w' : World) : (zeroValue t).run P w' = .ok z w' := by
  unfold zeroValue
  simp [run_typeInfo_ h, hz]
theorem intOp_ok {op : BinOp} {k : IntKind} {p q : Int} (h : intOp op k p q = some r) : ∃ u, C E w r u ∧ ∀ w', (binOp op 0 (.int k p) (.int k q)).run P w' = .ok u w' := by
  cases op
  case quo =>
    simp only [intOp] at h
    split at h
    · rename_i hz
      cases h
      have := nz_ne hz
      exact ⟨_, C_v_mk rfl, fun w' => by simp [binOp_quo, Op.intDiv, this, wr_eq, qt_eq]⟩
    · cases h
  case rem =>
    simp only [intOp] at h
    split at h
    · rename_i hz
      cases h
      have := nz_ne hz
      exact ⟨_, C_v_mk rfl, fun w' => by simp [binOp_rem, Op.intDiv, this, rm_eq]⟩
    · cases h
  all_goals simp only [intOp, Option.some.injEq] at h <;> first | (cases h; done) | (subst h; refine ⟨_, C_v_mk rfl, fun w' => ?_⟩; simp [binOp, Op.intArith, Op.intCmp, intBits_and, intBits_or, wr_eq, ltB_eq, leB_eq, eqB_eq, notB_eq, bne])
theorem intOp_run {op : BinOp} {t t' : TypeId} {k : IntKind} {p q : Int} (w' : World) : (binOp op t (.int k p) (.int k q)).run P w' = (binOp op t' (.int k p) (.int k q)).run P w' := by
  cases op <;> rfl
theorem eqGuard_int {op : BinOp} {t : TypeId} {x y : Operand} {k k' : IntKind} {p q : Int} (w' : World) : (eqGuard op t x y (.int k p) (.int k' q)).run P w' = .ok () w' := by
  unfold eqGuard
  split <;> simp
theorem setFrom_ok : ∀ {cs : List AV} {cells : List AV} {off : Nat} {us vs : List Value}, CL E w cells us → CL E w cs vs → (∀ x ∈ us, x.oneCell' = true) → (∀ x ∈ vs, x.oneCell' = true) → ∃ ws, CL E w (setFrom cells off cs) ws ∧ (∀ x ∈ ws, x.oneCell' = true) ∧ ((vs.zipIdx 0).foldl (fun acc (c, j) => acc.setIfInBounds (off + j) c) (List.toArray us)) = List.toArray ws
  | [], cells, off, us, vs, h, h', h1, _ => by
    unfold CL at h'; subst h'
    exact ⟨us, h, h1, by simp⟩
  | c :: cs, cells, off, us, vs, h, h', h1, h2 => by
    unfold CL at h'
    obtain ⟨u, r, rfl, h3, h4⟩ := h'
    have hset := CL_set h off h3
    have h1' : ∀ x ∈ us.set off u, x.oneCell' = true := by
      intro x hx
      rcases List.mem_or_eq_of_mem_set hx with hx | rfl
      · exact h1 x hx
      · exact h2 x (by simp)
    obtain ⟨ws, k1, k2, k3⟩ := setFrom_ok (off := off + 1) hset h4 h1' (fun x hx => h2 x (by simp [hx]))
    refine ⟨ws, k1, k2, ?_⟩
    rw [← k3]
    simp only [List.zipIdx_cons, List.foldl_cons, Nat.add_zero, List.setIfInBounds_toArray, Nat.zero_add]
    -- indices shifted by one
    have sh : ∀ (l : List Value) (n : Nat) (A : Array Value), (l.zipIdx (n + 1)).foldl (fun acc (c, j) => acc.setIfInBounds (off + j) c) A = (l.zipIdx n).foldl (fun acc (c, j) => acc.setIfInBounds (off + 1 + j) c) A := by
      intro l
      induction l with
      | nil => intro n A; rfl
      | cons x l ih =>
        intro n A
        simp only [List.zipIdx_cons, List.foldl_cons]
        rw [ih (n + 1)]
        congr 2
        omega
    exact sh r 0 _
end
end Go.Proofs.Ytmocggibcniggaa.Kw
namespace Go.Proofs.Ytmocggibcniggaa.Kw
open Go
section
variable {P : Program} {T : Tab} {E : Env} {w : World} {F : Fr} {a : Act} {S : Sp} {r : AV} {w0 : World} {X : Org} {H : Hp}
theorem raw_CL : ∀ {vs : List Value}, allOne vs = true → CL E w (raw vs) vs
  | [], _ => by unfold raw CL; rfl
  | v :: vs, h => by
    unfold allOne at h
    rw [Bool.and_eq_true] at h
    unfold raw CL
    exact ⟨v, vs, rfl, C_v_mk h.1, raw_CL h.2⟩
theorem allOne_mem : ∀ {vs : List Value}, allOne vs = true → ∀ x ∈ vs, x.oneCell' = true
  | [], _, x, hx => by simp at hx
  | v :: vs, h, x, hx => by
    unfold allOne at h
    rw [Bool.and_eq_true] at h
    rcases List.mem_cons.1 hx with rfl | hx
    · exact h.1
    · exact allOne_mem h.2 x hx
theorem cellA_one {x : AV} {u : Value} (hx : cellA x = true) (h : C E w x u) : u.oneCell' = true := by
  cases x with
  | r x => unfold C at h; exact CR_one h
  | box i o => unfold C at h; obtain ⟨b, _, rfl⟩ := h; exact hnd_one _ _
  | sl k => unfold C at h; exact h.2
  | el k s i o => unfold C at h; obtain ⟨b, n, c, _, rfl⟩ := h; rfl
  | ss k s i n => unfold C at h; obtain ⟨A, l, c, _, _, A', rfl, _⟩ := h; rfl
  | cap k => unfold C at h; obtain ⟨A, l, c, _, rfl⟩ := h; rfl
  | capLe k N => unfold C at h; obtain ⟨A, l, c, _, rfl, _⟩ := h; rfl
  | capGt k N => unfold C at h; obtain ⟨A, l, c, _, rfl, _⟩ := h; rfl
  | agg cs => cases hx
  | tup cs => cases hx
  | fn f cs => unfold C at h; obtain ⟨us, rfl, _⟩ := h; rfl
  | junk => cases hx
theorem one_cells {u : Value} (h : u.oneCell' = true) : u.cells = #[u] := by cases u <;> first | rfl | cases h
def CP (E : Env) (w : World) : List (Nat × AV) → List (Nat × Value) → Prop
  | [], ps => ps = []
  | x :: xs, ps => ∃ u r, ps = (x.1, u) :: r ∧ C E w x.2 u ∧ CP E w xs r
theorem aggOf_eq {x : AV} {cs : List AV} (h : aggOf x = some cs) : x = .agg cs := by cases x <;> first | (cases h; done) | (simp [aggOf] at h; rw [h])
theorem fill_cons {place : Nat → Option (Nat × Nat)} {cells : Array Value} {i : Nat} {v : Value} {rest : List (Nat × Value)} {off size : Nat} (hp : place i = some (off, size)) (h1 : v.cells.size = size) (h2 : off + size ≤ cells.size) :
    Instr.fill place cells ((i, v) :: rest) = Instr.fill place (v.cells.zipIdx.foldl (fun cs (c, j) => cs.setIfInBounds (off + j) c) cells) rest := by
  conv => lhs; unfold Instr.fill
  simp [hp, h1]
  omega
theorem fillA_ok {fs : List (Nat × Nat × Bool)} : ∀ {xs : List (Nat × AV)} {cells cs : List AV} {us : List Value} {ps : List (Nat × Value)}, fillA fs cells xs = some cs → CL E w cells us → (∀ x ∈ us, x.oneCell' = true) →
    CP E w xs ps → ∃ ws, CL E w cs ws ∧ (∀ x ∈ ws, x.oneCell' = true) ∧ Instr.fill (fun i => (fs[i]?).map fun q => (q.1, q.2.1)) (List.toArray us) ps = some (List.toArray ws)
  | [], cells, cs, us, ps, h, hc, h1, hp => by
    unfold CP at hp
    subst hp
    unfold fillA at h
    cases h
    exact ⟨us, hc, h1, rfl⟩
  | (i, x) :: xs, cells, cs, us, ps, h, hc, h1, hp => by
    unfold CP at hp
    obtain ⟨u, r, rfl, hx, hp⟩ := hp
    unfold fillA at h
    cases hf : fs[i]? with
    | none => simp [hf] at h
    | some q =>
      obtain ⟨off, sz, ag⟩ := q
      simp only [hf] at h
      have hul := CL_length hc
      cases ha : aggOf x with
      | some ds =>
        have := aggOf_eq ha
        subst this
        simp only [ha] at h
        cases hb : (Nat.beq ds.length sz && Nat.ble (off + sz) cells.length) with
        | false => rw [hb] at h; cases h
        | true =>
          rw [hb] at h
          simp only at h
          rw [Bool.and_eq_true] at hb
          have e1 : ds.length = sz := Nat.eq_of_beq_eq_true hb.1
          have e2 : off + sz ≤ cells.length := Nat.le_of_ble_eq_true hb.2
          unfold C at hx
          obtain ⟨vs, rfl, hd, hv⟩ := hx
          have hvl := CL_length hd
          obtain ⟨ws, k1, k2, k3⟩ := setFrom_ok (off := off) hc hd h1 hv
          obtain ⟨zs, m1, m2, m3⟩ := fillA_ok h k1 k2 hp
          refine ⟨zs, m1, m2, ?_⟩
          rw [fill_cons (off := off) (size := sz) (by simp [hf]) (by simp [Value.cells]; omega) (by simp; omega)]
          rw [← m3, ← k3]
          congr 1
          simp [Value.cells]
      | none =>
        simp only [ha] at h
        cases hb : (cellA x && Nat.beq sz 1 && Nat.ble (off + 1) cells.length) with
        | false => rw [hb] at h; cases h
        | true =>
          rw [hb] at h
          simp only at h
          rw [Bool.and_eq_true, Bool.and_eq_true] at hb
          have e1 : sz = 1 := Nat.eq_of_beq_eq_true hb.1.2
          have e2 : off + 1 ≤ cells.length := Nat.le_of_ble_eq_true hb.2
          have ho := cellA_one hb.1.1 hx
          obtain ⟨zs, m1, m2, m3⟩ := fillA_ok h (CL_set hc off hx) (by
            intro y hy
            rcases List.mem_or_eq_of_mem_set hy with hy | rfl
            · exact h1 y hy
            · exact ho) hp
          refine ⟨zs, m1, m2, ?_⟩
          rw [fill_cons (off := off) (size := sz) (by simp [hf]) (by rw [one_cells ho]; simp [e1]) (by simp; omega)]
          rw [← m3]
          congr 1
          simp [one_cells ho]
end
end Go.Proofs.Ytmocggibcniggaa.Kw
namespace Go.Proofs.Ytmocggibcniggaa.Kw
open Go
section
variable {P : Program} {T : Tab} {E : Env} {w : World} {F : Fr} {a : Act} {S : Sp} {r : AV} {w0 : World} {X : Org} {H : Hp}
theorem Fits.evp (h : Fits E w F a) : ∀ {os : List (Nat × Operand)} {xs : List (Nat × AV)}, Kw.evp F os = some xs → CP E w xs (os.map fun p => (p.1, a.eval p.2))
  | [], xs, hx => by cases hx; unfold CP; rfl
  | (i, o) :: os, xs, hx => by
    unfold Kw.evp at hx
    cases h1 : Kw.ev F o with
    | none => simp [h1] at hx
    | some x =>
      cases h2 : Kw.evp F os with
      | none => simp [h1, h2] at hx
      | some ys =>
        simp only [h1, h2, Option.some.injEq] at hx
        subst hx
        unfold CP
        exact ⟨_, _, rfl, h.ev h1, h.evp h2⟩
theorem run_fields {fs : List Field} : ∀ {q : List (Nat × Nat × Bool)}, tyFields P fs = some q → ∀ w', (fs.mapM (fun (f : Field) => (do pure (f.offset, ← Go.sizeOf f.type) : Sem (Nat × Nat)))).run P w' = .ok (q.map fun x => (x.1, x.2.1)) w' := by
  induction fs with
  | nil => intro q h w'; simp [tyFields] at h; subst h; simp
  | cons f fs ih =>
    intro q h w'
    unfold tyFields at h
    cases hi : P.info? f.type with
    | none => simp [hi] at h
    | some i =>
      cases hd : P.underlying f.type with
      | none => simp [hi, hd] at h
      | some d =>
        cases hq : tyFields P fs with
        | none => simp [hi, hd, hq] at h
        | some q' =>
          simp only [hi, hd, hq, Option.some.injEq] at h
          subst h
          simp only [List.mapM_cons, Sem.run_bind, run_sizeOf_ hi, Result.andThen_ok, Sem.run_pure, ih hq w', List.map_cons]
theorem run_fields_arr {fs : Array Field} {q : List (Nat × Nat × Bool)} (h : tyFields P fs.toList = some q) (w' : World) : (fs.mapM (fun (f : Field) => (do pure (f.offset, ← Go.sizeOf f.type) : Sem (Nat × Nat)))).run P w' = .ok (List.toArray (q.map fun x => (x.1, x.2.1))) w' := by
  have h1 : (fs.mapM (fun (f : Field) => (do pure (f.offset, ← Go.sizeOf f.type) : Sem (Nat × Nat)))) = List.toArray <$> (fs.toList.mapM (fun (f : Field) => (do pure (f.offset, ← Go.sizeOf f.type) : Sem (Nat × Nat)))) := by
    rw [Array.mapM_eq_mapM_toList]
  rw [h1, Sem.run_map, run_fields h w']
  rfl
theorem tyOf_struct {t : TypeId} {y : Ty} (h : tyOf P t = some y) (ha : y.agg = true) (hf : y.fields.isEmpty = false) : ∃ fs, P.underlying t = some (.struct fs) ∧ tyFields P fs.toList = some y.fields := by
  unfold tyOf at h
  split at h
  · rename_i d i hd hi
    split at h
    · split at h
      · rename_i fs
        split at h
        · rename_i q hq
          cases h; exact ⟨fs, hd, hq⟩
        · cases h
      all_goals (cases h; first | (cases ha; done) | simp at hf)
    · cases h
  · cases h
theorem build_ok (hT : TabOk P T) (hF : Fits E w F a) {t : TypeId} {ps : Array (Nat × Operand)} {y : Ty} {xs : List (Nat × AV)} {cs : List AV} (h1 : T.get t = some y) (h2 : Kw.evp F ps.toList = some xs)
    (h3 : (y.agg && !y.fields.isEmpty && allOne y.zero) = true) (h4 : fillA y.fields (raw y.zero) xs = some cs) {o : Oper} (ho : o.op = .build t ps) : ∃ u, C E w (.agg cs) u ∧ Ans P a o u := by
  rw [Bool.and_eq_true, Bool.and_eq_true] at h3
  have hy := hT t y h1
  obtain ⟨fs, hu, hfs⟩ := tyOf_struct hy h3.1.1 (by simpa using h3.1.2)
  obtain ⟨i, z, hi, hsz, _, hz, hzc⟩ := tyOf_zero hy
  obtain ⟨ws, k1, k2, k3⟩ := fillA_ok (us := y.zero) (ps := ps.toList.map fun p => (p.1, a.eval p.2)) h4 (raw_CL h3.2) (allOne_mem h3.2) (hF.evp h2)
  refine ⟨.agg (List.toArray ws), by unfold C; exact ⟨ws, rfl, k1, k2⟩, ?_⟩
  refine ans_v (s := Instr.build t (ps.map fun p => (p.1, a.eval p.2))) (by unfold execOp; simp only [ho]) (fun w' => ?_)
  unfold Instr.build
  simp only [Sem.run_bind, run_zero_ hi hz, Result.andThen_ok, run_underlying_ hu, run_fields_arr hfs]
  have e1 : (fun (x : Nat) => (List.toArray (y.fields.map fun (x : Nat × Nat × Bool) => (x.1, x.2.1)))[x]?) = fun (i : Nat) => (y.fields[i]?).map fun (q : Nat × Nat × Bool) => (q.1, q.2.1) := by
    funext j
    simp
  have e2 : (ps.map fun p => (p.1, a.eval p.2)).toList = ps.toList.map fun p => (p.1, a.eval p.2) := by simp
  have e3 : z.cells = List.toArray y.zero := by rw [← hzc]
  simp only [e1, e2, e3, k3]
  rfl
end
end Go.Proofs.Ytmocggibcniggaa.Kw
namespace Go.Proofs.Ytmocggibcniggaa.Kw
open Go
section
variable {P : Program} {T : Tab} {E : Env} {w : World} {F : Fr} {a : Act} {S : Sp} {r : AV} {w0 : World} {X : Org} {H : Hp}
theorem lenA_ok (hS : Sat w0 X E H S w) {x : AV} {n : Nat} {u : Value} (h : lenA S x = some n) (hx : C E w x u) : ∃ A c, u = .slice A n c := by
  unfold lenA at h
  split at h
  · cases h
    unfold C CR at hx
    obtain ⟨A, c, h1, _⟩ := hx
    exact ⟨A, c, h1⟩
  · cases h
    unfold C CR at hx
    obtain ⟨A, c, h1, _⟩ := hx
    exact ⟨A, c, h1⟩
  · cases h
    unfold C at hx
    obtain ⟨A, l, c, _, _, A', h1, _⟩ := hx
    exact ⟨_, _, h1⟩
  · cases h
    have := C_v hx
    subst this
    exact ⟨_, _, rfl⟩
  · rename_i k
    split at h
    · rename_i e he
      cases h
      unfold C at hx
      obtain ⟨v, fp, h1, _, cs, f, h2, _⟩ := hS.sl k e he
      have h3 := hx.1
      rw [h1] at h3
      cases h3
      rcases h2.2 with ⟨h4, h5⟩ | ⟨g, cap, cur, h4, _⟩
      · exact ⟨none, 0, by rw [h4, h5]⟩
      · exact ⟨_, _, h4⟩
    · cases h
  · cases h
theorem ptN_ok {x : AV} {b : Bool} {u : Value} (h : ptN x = some b) (hx : C E w x u) : ∃ p, u = .pointer p ∧ p.isNone = b := by
  unfold ptN at h
  split at h
  · split at h
    · cases h
    · rename_i hmo
      cases h; unfold C at hx; obtain ⟨b, _, rfl⟩ := hx; rw [hnd_p hmo]; exact ⟨_, rfl, rfl⟩
  · cases h; unfold C at hx; obtain ⟨b, n, c, _, rfl⟩ := hx; exact ⟨_, rfl, rfl⟩
  · cases h; unfold C CR at hx; obtain ⟨b, o, rfl, _⟩ := hx; exact ⟨_, rfl, rfl⟩
  · cases h; have := C_v hx; subst this; exact ⟨_, rfl, rfl⟩
  · cases h
theorem ptEq_ok {t e : TypeId} (ht : P.underlying t = some (.pointer e)) {p q : Option Addr} {z : Bool} (h : ptEq p.isNone q.isNone = some z) (w' : World) : (Op.equal t (.pointer p) (.pointer q)).run P w' = .ok z w' := by
  unfold Op.equal Op.maxDepth
  unfold Op.equalIn
  cases p with
  | none =>
    simp only [Option.isNone_none, ptEq, Option.some.injEq] at h
    subst h
    simp only [Sem.run_bind, run_underlying_ ht, Result.andThen_ok]
    rfl
  | some p =>
    cases q with
    | none =>
      simp only [Option.isNone_none, Option.isNone_some, ptEq, Option.some.injEq] at h
      subst h
      simp only [Sem.run_bind, run_underlying_ ht, Result.andThen_ok]
      rfl
    | some q => simp [ptEq] at h
theorem part_ok {t : TypeId} {d : TypeDesc} {i : TypeInfo} {us : Array Value} {off : Nat} (hd : P.underlying t = some d) (hi : P.info? t = some i) {u : Value}
    (h : if isAggD d = true then u = .agg (us.extract off (off + i.size)) else us[off]? = some u) (w' : World) : (part t us off).run P w' = .ok u w' := by
  unfold part
  simp only [Sem.run_bind, run_isAgg_ hd, Result.andThen_ok]
  cases ha : isAggD d with
  | true =>
    rw [ha] at h
    simp at h
    simp [run_sizeOf_ hi, h]
  | false =>
    rw [ha] at h
    simp at h
    simp [h]
theorem pv_field (hT : TabOk P T) (hF : Fits E w F a) {t : TypeId} {x : Operand} {j : Nat} (h : pureVal T S F (.field t x j) = some r) {o : Oper} (ho : o.op = .field t x j) : ∃ u, C E w r u ∧ Ans P a o u := by
  simp only [pureVal] at h
  cases h1 : T.get t with
  | none => simp [h1] at h
  | some y =>
    cases h2 : Kw.ev F x with
    | none => simp [h1, h2] at h
    | some v =>
      have hv := hF.ev h2
      cases v with
      | agg cs =>
        simp only [h1, h2] at h
        unfold C at hv
        obtain ⟨us, hu, hcl, hone⟩ := hv
        have hl := CL_length hcl
        cases h3 : y.fields[j]? with
        | none => simp [h3] at h
        | some q =>
          obtain ⟨fs, f, i, d, k1, k2, k3, k4, k5, k6, k7⟩ := tyOf_field (hT t y h1) h3
          obtain ⟨off, sz, ag⟩ := q
          replace k3 : f.offset = off := k3
          replace k5 : i.size = sz := k5
          replace k7 : isAggD d = ag := k7
          have run : ∀ u, (if isAggD d = true then u = .agg ((List.toArray us).extract off (off + i.size)) else (List.toArray us)[off]? = some u) → Ans P a o u := by
            intro u hu'
            refine ans_v (s := Instr.field t (a.eval x) j) (by unfold execOp; simp only [ho]) (fun w' => ?_)
            unfold Instr.field
            simp only [Sem.run_bind, run_underlying_ k1, Result.andThen_ok, k2, hu, asAgg, Sem.run_pure, k3]
            exact part_ok k6 k4 hu' w'
          cases ag with
          | true =>
            simp only [h3, Option.some.injEq] at h
            subst h
            refine ⟨.agg (List.toArray ((us.drop off).take sz)), by unfold C; exact ⟨_, rfl, CL_take (CL_drop hcl off) sz, fun z hz => hone z (List.mem_of_mem_drop (List.mem_of_mem_take hz))⟩, run _ ?_⟩
            rw [if_pos k7, k5]
            simp [List.extract_eq_take_drop]
          | false =>
            simp only [h3] at h
            obtain ⟨u, m1, m2⟩ := CL_get hcl h
            refine ⟨u, m2, run _ ?_⟩
            rw [if_neg (by rw [k7]; simp)]
            simpa using m1
      | _ => simp [h1, h2] at h
theorem CAt_drop {Y Z : Nat → Prop} : ∀ (n : Nat) {cs : List RV} {b o : Nat}, CAt Y Z w cs b o → CAt Y Z w (cs.drop n) b (o + n)
  | 0, cs, b, o, h => by simpa using h
  | n + 1, [], b, o, h => by simp; unfold CAt; trivial
  | n + 1, c :: cs, b, o, h => by
    unfold CAt at h
    have := CAt_drop n h.2
    rw [show o + (n + 1) = o + 1 + n from by omega]
    simpa using this
theorem pv_fieldAddr (hT : TabOk P T) (hF : Fits E w F a) {t : TypeId} {x : Operand} {j : Nat} (h : pureVal T S F (.fieldAddr t x j) = some r) {o : Oper} (ho : o.op = .fieldAddr t x j) : ∃ u, C E w r u ∧ Ans P a o u := by
  simp only [pureVal] at h
  cases h1 : T.get t with
  | none => simp [h1] at h
  | some y =>
    cases h2 : Kw.ev F x with
    | none => simp [h1, h2] at h
    | some v =>
      have hv := hF.ev h2
      simp only [h1, h2] at h
      cases h3 : y.fields[j]? with
      | none => simp [h3] at h
      | some q =>
        obtain ⟨fs, f, i, d, k1, k2, k3, k4, k5, k6, k7⟩ := tyOf_field (hT t y h1) h3
        obtain ⟨off, sz, ag⟩ := q
        replace k3 : f.offset = off := k3
        replace k5 : i.size = sz := k5
        simp only [h3] at h
        cases h4 : Nat.beq sz 0 with
        | true => simp [h4] at h
        | false =>
          simp only [h4] at h
          have hsz : i.size ≠ 0 := by rw [k5]; rintro rfl; simp [Nat.beq] at h4
          have run : ∀ b o', a.eval x = .pointer (some ⟨b, o', none⟩) → Ans P a o (.pointer (some ⟨b, o' + off, none⟩)) := by
            intro b o' hb
            refine ans_v (s := Instr.fieldAt t (a.eval x) j) (by unfold execOp; simp only [ho]) (fun w' => ?_)
            unfold Instr.fieldAt fieldPlace
            simp only [Sem.run_bind, run_underlying_ k1, Result.andThen_ok, k2, hb, Instr.sureAddr, Sem.run_pure, run_sizeOf_ k4, Sem.run_ite, if_neg hsz, k3]
            congr 3
            unfold Addr.add
            split
            · rename_i h0; simp_all
            · rfl
          cases v with
          | box i' o' =>
            cases hmo : isMo o' || isMo (o' + off) with
            | true => simp [hmo] at h
            | false =>
              simp only [hmo, Option.some.injEq] at h
              rw [Bool.or_eq_false_iff] at hmo
              subst h
              unfold C at hv
              obtain ⟨b, hb, hu⟩ := hv
              rw [hnd_p hmo.1] at hu
              exact ⟨_, by unfold C; exact ⟨b, hb, (hnd_p hmo.2).symm⟩, run b o' hu⟩
          | el k z i' o' =>
            simp only [Option.some.injEq] at h
            subst h
            unfold C at hv
            obtain ⟨b, n, c, hb, hu⟩ := hv
            exact ⟨_, by unfold C; exact ⟨b, n, c, hb, rfl⟩, by have := run b _ hu; rw [show i' * z + (o' + off) = i' * z + o' + off from by omega]; exact this⟩
          | r rv =>
            cases rv with
            | ro cs =>
              simp only [Option.some.injEq] at h
              subst h
              unfold C CR at hv
              obtain ⟨b, o', hu, hz, hc⟩ := hv
              refine ⟨_, ?_, run b o' hu⟩
              unfold C CR
              exact ⟨b, o' + off, rfl, hz, CAt_drop off hc⟩
            | _ => simp at h
          | _ => simp at h
theorem ans_move {o : Oper} {x : Operand} (ho : o.op = .move x ∨ o.op = .assign x) : Ans P a o (a.eval x) := by
  intro w'
  unfold execOp
  rcases ho with ho | ho <;> simp only [ho] <;> rfl
theorem pv_pick (hF : Fits E w F a) {c x y : Operand} (h : pureVal T S F (.pick c x y) = some r) {o : Oper} (ho : o.op = .pick c x y) : ∃ u, C E w r u ∧ Ans P a o u := by
  simp only [pureVal] at h
  split at h
  · rename_i hc
    have := C_v (hF.ev hc)
    exact ⟨_, hF.ev h, fun w' => by unfold execOp; simp only [ho]; simp [this, asBool]⟩
  · rename_i hc
    have := C_v (hF.ev hc)
    exact ⟨_, hF.ev h, fun w' => by unfold execOp; simp only [ho]; simp [this, asBool]⟩
  · cases h
theorem pv_unOp (hF : Fits E w F a) {op : UnOp} {t : TypeId} {x : Operand} (h : pureVal T S F (.unOp op t x) = some r) {o : Oper} (ho : o.op = .unOp op t x) : ∃ u, C E w r u ∧ Ans P a o u := by
  simp only [pureVal] at h
  split at h
  · rename_i hc
    cases h
    have := C_v (hF.ev hc)
    exact ⟨_, C_v_mk rfl, ans_v (s := Op.unary .not (a.eval x)) (by unfold execOp; simp only [ho]) (fun w' => by rw [this, notB_eq]; rfl)⟩
  · rename_i k n hc
    cases h
    have := C_v (hF.ev hc)
    exact ⟨_, C_v_mk rfl, ans_v (s := Op.unary .neg (a.eval x)) (by unfold execOp; simp only [ho]) (fun w' => by rw [this, wr_eq]; rfl)⟩
  · cases h
theorem pv_binOp (hT : TabOk P T) (hF : Fits E w F a) {op : BinOp} {t t' : TypeId} {x y : Operand} (h : pureVal T S F (.binOp op t x y t') = some r) {o : Oper} (ho : o.op = .binOp op t x y t') : ∃ u, C E w r u ∧ Ans P a o u := by
  simp only [pureVal] at h
  split at h
  · rename_i k p hx
    split at h
    · rename_i k' q hy
      split at h
      · rename_i hk
        have := kindEq_eq hk
        subst this
        have e1 := C_v (hF.ev hx)
        have e2 := C_v (hF.ev hy)
        obtain ⟨u, h1, h2⟩ := intOp_ok (E := E) (w := w) (P := P) h
        refine ⟨u, h1, ans_v (s := do eqGuard op t x y (a.eval x) (a.eval y); binOp op t (a.eval x) (a.eval y)) (by unfold execOp; simp only [ho]) (fun w' => ?_)⟩
        rw [e1, e2, Sem.run_bind, eqGuard_int, Result.andThen_ok, intOp_run (t' := 0)]
        exact h2 w'
      · cases h
    · cases h
  · rename_i p hx
    split at h
    · rename_i q hy
      have e1 := C_v (hF.ev hx)
      have e2 := C_v (hF.ev hy)
      have ge : ∀ w', (eqGuard op t x y (.bool p) (.bool q)).run P w' = .ok () w' := fun w' => by unfold eqGuard; split <;> simp
      split at h
      · rename_i yt hyt
        split at h
        · rename_i hbl
          cases h
          refine ⟨_, C_v_mk rfl, ans_v (s := do eqGuard .eql t x y (a.eval x) (a.eval y); binOp .eql t (a.eval x) (a.eval y)) (by unfold execOp; simp only [ho]) (fun w' => ?_)⟩
          rw [e1, e2, Sem.run_bind, ge, Result.andThen_ok, run_eql_bool _ _ _ _ (tyOf_bl (hT _ _ hyt) hbl), beqB_eq]
        · rename_i hbl
          cases h
          refine ⟨_, C_v_mk rfl, ans_v (s := do eqGuard .neq t x y (a.eval x) (a.eval y); binOp .neq t (a.eval x) (a.eval y)) (by unfold execOp; simp only [ho]) (fun w' => ?_)⟩
          rw [e1, e2, Sem.run_bind, ge, Result.andThen_ok]
          unfold binOp
          simp [run_equal_bool _ _ _ _ (tyOf_bl (hT _ _ hyt) hbl), beqB_eq, notB_eq]
        · cases h
      · cases h
    · cases h
  · rename_i p hx
    split at h
    · rename_i a1 b1 yt hp hq hyt
      split at h
      · rename_i hpt
        obtain ⟨e, hu⟩ := tyOf_pt (hT _ _ hyt) hpt
        cases hy : Kw.ev F y with
        | none => rw [hy] at hq; cases hq
        | some q =>
          rw [hy] at hq
          obtain ⟨pp, e1, e2⟩ := ptN_ok hp (hF.ev hx)
          obtain ⟨qq, e3, e4⟩ := ptN_ok hq (hF.ev hy)
          cases hz : ptEq a1 b1 with
          | none => rw [hz] at h; cases h
          | some z =>
            rw [hz] at h
            cases h
            refine ⟨_, C_v_mk rfl, ans_v (s := do eqGuard .eql t x y (a.eval x) (a.eval y); binOp .eql t (a.eval x) (a.eval y)) (by unfold execOp; simp only [ho]) (fun w' => ?_)⟩
            have ge : (eqGuard .eql t x y (.pointer pp) (.pointer qq)).run P w' = .ok () w' := by unfold eqGuard; simp
            rw [e1, e3, Sem.run_bind, ge, Result.andThen_ok]
            unfold binOp
            simp [ptEq_ok (P := P) hu (p := pp) (q := qq) (z := z) (by rw [e2, e4]; exact hz) w']
      · cases h
    · rename_i a1 b1 yt hp hq hyt
      split at h
      · rename_i hpt
        obtain ⟨e, hu⟩ := tyOf_pt (hT _ _ hyt) hpt
        cases hy : Kw.ev F y with
        | none => rw [hy] at hq; cases hq
        | some q =>
          rw [hy] at hq
          obtain ⟨pp, e1, e2⟩ := ptN_ok hp (hF.ev hx)
          obtain ⟨qq, e3, e4⟩ := ptN_ok hq (hF.ev hy)
          cases hz : ptEq a1 b1 with
          | none => rw [hz] at h; cases h
          | some z =>
            rw [hz] at h
            cases h
            refine ⟨_, C_v_mk rfl, ans_v (s := do eqGuard .neq t x y (a.eval x) (a.eval y); binOp .neq t (a.eval x) (a.eval y)) (by unfold execOp; simp only [ho]) (fun w' => ?_)⟩
            have ge : (eqGuard .neq t x y (.pointer pp) (.pointer qq)).run P w' = .ok () w' := by unfold eqGuard; simp
            rw [e1, e3, Sem.run_bind, ge, Result.andThen_ok]
            unfold binOp
            simp [ptEq_ok (P := P) hu (p := pp) (q := qq) (z := z) (by rw [e2, e4]; exact hz) w']
      · cases h
    · cases h
  · cases h
theorem pv_convert (hT : TabOk P T) (hF : Fits E w F a) {s d : TypeId} {x : Operand} (h : pureVal T S F (.convert s d x) = some r) {o : Oper} (ho : o.op = .convert s d x) : ∃ u, C E w r u ∧ Ans P a o u := by
  simp only [pureVal] at h
  split at h
  · rename_i y1 y k n h1 h2 h3
    split at h
    · rename_i k' hk
      cases h
      have e1 := C_v (hF.ev h3)
      obtain ⟨d1, hd1, _⟩ := tyOf_agg (hT _ _ h1)
      have hd2 := tyOf_ik (hT _ _ h2) hk
      refine ⟨_, C_v_mk rfl, ans_v (s := convert s d (a.eval x)) (by unfold execOp; simp only [ho]) (fun w' => ?_)⟩
      rw [e1]
      unfold convert
      simp only [Sem.run_bind, run_underlying_ hd1, run_underlying_ hd2, Result.andThen_ok, wr_eq]
      rfl
    · cases h
  · cases h
theorem pv_nilCheck (hF : Fits E w F a) {x : Operand} (h : pureVal T S F (.nilCheck x) = some r) {o : Oper} (ho : o.op = .nilCheck x) : ∃ u, C E w r u ∧ Ans P a o u := by
  simp only [pureVal] at h
  split at h
  · rename_i i o' hc
    split at h
    · cases h
    rename_i hmo
    cases h
    have hv := hF.ev hc
    refine ⟨_, hv, fun w' => ?_⟩
    unfold C at hv
    obtain ⟨b, _, hu⟩ := hv
    rw [hnd_p hmo] at hu
    unfold execOp
    simp only [ho, hu]
    rfl
  · rename_i cs hc
    cases h
    have hv := hF.ev hc
    refine ⟨_, hv, fun w' => ?_⟩
    unfold C CR at hv
    obtain ⟨b, o', hu, _⟩ := hv
    unfold execOp
    simp only [ho, hu]
    rfl
  · rename_i k z i o' hc
    cases h
    have hv := hF.ev hc
    refine ⟨_, hv, fun w' => ?_⟩
    unfold C at hv
    obtain ⟨b, n, c, _, hu⟩ := hv
    unfold execOp
    simp only [ho, hu]
    rfl
  · rename_i f cs hc
    cases h
    have hv := hF.ev hc
    refine ⟨_, hv, fun w' => ?_⟩
    unfold C at hv
    obtain ⟨us, hu, _⟩ := hv
    unfold execOp
    simp only [ho, hu]
    rfl
  · cases h
theorem pv_extract (hF : Fits E w F a) {x : Operand} {j : Nat} (h : pureVal T S F (.extract x j) = some r) {o : Oper} (ho : o.op = .extract x j) : ∃ u, C E w r u ∧ Ans P a o u := by
  simp only [pureVal] at h
  split at h
  · rename_i xs hc
    have hv := hF.ev hc
    unfold C at hv
    obtain ⟨us, hu, hcl⟩ := hv
    obtain ⟨u, m1, m2⟩ := CL_get hcl h
    refine ⟨u, m2, ans_v (s := Instr.extract (a.eval x) j) (by unfold execOp; simp only [ho]) (fun w' => ?_)⟩
    rw [hu]
    unfold Instr.extract
    simp [m1]
  · cases h
theorem pv_makeFunc (hF : Fits E w F a) {fn : Fn} {first captured : Array Operand} (h : pureVal T S F (.makeFunc fn first captured) = some r) {o : Oper} (ho : o.op = .makeFunc fn first captured) : ∃ u, C E w r u ∧ Ans P a o u := by
  simp only [pureVal] at h
  split at h
  · rename_i f h1
    split at h
    · rename_i cs hc
      cases h
      have hcl := hF.evs hc
      have hfirst : first = #[] := by cases first; simp at h1; rw [h1]
      subst hfirst
      refine ⟨.func (.func f) #[] (List.toArray (captured.toList.map a.eval)), by unfold C; exact ⟨_, rfl, hcl⟩, fun w' => ?_⟩
      unfold execOp
      simp only [ho]
      cases captured
      simp [Instr.makeFunc]
    · cases h
  · cases h
theorem call_args {c : Call} {b : Builtin} (hb : c.callee = .builtin b) {o : Oper} (ho : o.op = .call c) : ∃ q, execOp a.eval o = builtin b c.argTypes o.type q (c.args.map a.eval) := by
  refine ⟨c.args.map fun | .const _ => true | _ => false, ?_⟩
  unfold execOp
  simp only [ho, resolve, hb, pure_bind, invoke]
  rfl
theorem arr_one {α : Type} {A : Array α} {x : α} (h : A.toList = [x]) : A = #[x] := by cases A; simp at h; rw [h]
theorem arr_two {α : Type} {A : Array α} {x y : α} (h : A.toList = [x, y]) : A = #[x, y] := by cases A; simp at h; rw [h]
theorem pv_call (hT : TabOk P T) (hS : Sat w0 X E H S w) (hF : Fits E w F a) {c : Call} (h : pureVal T S F (.call c) = some r) {o : Oper} (ho : o.op = .call c) : ∃ u, C E w r u ∧ Ans P a o u := by
  simp only [pureVal] at h
  split at h
  · rename_i x t hb hx ht
    split at h
    · rename_i y v h1 h2
      split at h
      · rename_i e he
        split at h
        · rename_i n hn
          cases h
          obtain ⟨A, c', hu⟩ := lenA_ok hS hn (hF.ev h2)
          refine ⟨_, C_v_mk rfl, fun w' => ?_⟩
          obtain ⟨q, hq⟩ := call_args (a := a) hb ho
          rw [hq, arr_one hx, arr_one ht]
          simp only [List.map_toArray, List.map_cons, List.map_nil, builtin, hu]
          simp [Builtin.len_, run_underlying_ (tyOf_elem (hT _ _ h1) he), goInt]
        · cases h
      · cases h
    · cases h
  · rename_i x y t hb hx
    split at h
    · rename_i k p k' q h1 h2
      split at h
      · rename_i hk
        cases h
        have := kindEq_eq hk
        subst this
        have e1 := C_v (hF.ev h1)
        have e2 := C_v (hF.ev h2)
        refine ⟨_, C_v_mk rfl, fun w' => ?_⟩
        obtain ⟨q', hq⟩ := call_args (a := a) hb ho
        rw [hq, arr_two hx]
        simp only [List.map_toArray, List.map_cons, List.map_nil, builtin, e1, e2]
        simp [Builtin.max_, Builtin.max2, List.foldlM, ← mm_max]
      · cases h
    · cases h
  · rename_i x y t hb hx
    split at h
    · rename_i k p k' q h1 h2
      split at h
      · rename_i hk
        cases h
        have := kindEq_eq hk
        subst this
        have e1 := C_v (hF.ev h1)
        have e2 := C_v (hF.ev h2)
        refine ⟨_, C_v_mk rfl, fun w' => ?_⟩
        obtain ⟨q', hq⟩ := call_args (a := a) hb ho
        rw [hq, arr_two hx]
        simp only [List.map_toArray, List.map_cons, List.map_nil, builtin, e1, e2]
        simp [Builtin.min_, Builtin.min2, List.foldlM, ← mm_min]
      · cases h
    · cases h
  · cases h
/-- What pureVal tells is what the operation answers, in every world. -/
theorem pureVal_ok (hT : TabOk P T) (hS : Sat w0 X E H S w) (hF : Fits E w F a) {o : Oper} (h : pureVal T S F o.op = some r) : ∃ u, C E w r u ∧ Ans P a o u := by
  generalize hop : o.op = op at h
  cases op with
  | move x => exact ⟨_, hF.ev (by simpa [pureVal] using h), ans_move (.inl hop)⟩
  | assign x => exact ⟨_, hF.ev (by simpa [pureVal] using h), ans_move (.inr hop)⟩
  | pick c x y => exact pv_pick hF h hop
  | unOp op t x => exact pv_unOp hF h hop
  | binOp op t x y t' => exact pv_binOp hT hF h hop
  | convert s d x => exact pv_convert hT hF h hop
  | field t x j => exact pv_field hT hF h hop
  | fieldAddr t x j => exact pv_fieldAddr hT hF h hop
  | nilCheck x => exact pv_nilCheck hF h hop
  | extract x j => exact pv_extract hF h hop
  | makeFunc fn f c => exact pv_makeFunc hF h hop
  | call c => exact pv_call hT hS hF h hop
  | build t ps =>
    simp only [pureVal] at h
    split at h
    · rename_i y xs h1 h2
      split at h
      · rename_i h3
        split at h
        · rename_i cs h4
          cases h
          exact build_ok hT hF h1 h2 h3 h4 hop
        · cases h
      · cases h
    · cases h
  | _ => simp [pureVal] at h
end
end Go.Proofs.Ytmocggibcniggaa.Kw
