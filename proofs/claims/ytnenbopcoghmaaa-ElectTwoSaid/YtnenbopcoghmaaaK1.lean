/- The framework of this seat's proofs, part 1: a walk through a function over a symbolic state, proved sound. No condition. -/
import Derived.WalkKit
import Derived.KernelRfl
import Derived.RowKit3
import Derived.Maps.AppendAt
import Derived.Below
import Derived.Deep.OwnRows
import Derived.OrdersHeld
import Derived.Deep.RegionHeld3
import Derived.Laws.BitsLemmas
import Derived.RowKit
set_option linter.unusedSimpArgs false
set_option linter.unusedVariables false
/-! ### The symbolic state: read-only data by content, own blocks and own slices by number -/
namespace Go.Proofs.Ytnenbopcoghmaaa.Kw
open Go

/-- What is only read: a value; a pointer to cells; a slice of elements. -/
inductive RV where
  | v (x : Value)
  | ro (cs : List RV)
  | rs (sz : Nat) (L : List (List RV))
  deriving Inhabited

/-- What a slot holds. -/
inductive AV where
  | r (x : RV)
  | box (i off : Nat)
  | sl (k : Nat)
  | el (k sz i off : Nat)
  | agg (cs : List AV)
  | tup (cs : List AV)
  | fn (f : FuncId) (cap : List AV)
  | junk
  deriving Inhabited

structure Env where
  B : List Nat
  V : List Value
  Z : Nat → Prop

mutual
def CR (Z : Nat → Prop) (w : World) : RV → Value → Prop
  | .v x, u => u = x ∧ x.oneCell' = true
  | .ro cs, u => ∃ b o, u = .pointer (some ⟨b, o, none⟩) ∧ Z b ∧ CAt Z w cs b o
  | .rs sz L, u => ∃ A c, u = .slice A L.length c ∧ L.length ≤ c ∧ c ≤ maxLen ∧ (L = [] ∨ ∃ b o, A = some ⟨b, o, none⟩ ∧ Z b ∧ CRows Z w sz L b o)
def CAt (Z : Nat → Prop) (w : World) : List RV → Nat → Nat → Prop
  | [], _, _ => True
  | c :: cs, b, o => (∃ u, w.cell? ⟨b, o, none⟩ = some u ∧ CR Z w c u) ∧ CAt Z w cs b (o + 1)
def CRows (Z : Nat → Prop) (w : World) (sz : Nat) : List (List RV) → Nat → Nat → Prop
  | [], _, _ => True
  | cs :: L, b, o => cs.length = sz ∧ CAt Z w cs b o ∧ CRows Z w sz L b (o + sz)
end

theorem CR_one {Z w x u} (h : CR Z w x u) : u.oneCell' = true := by
  cases x with
  | v x => unfold CR at h; rw [h.1]; exact h.2
  | ro cs => unfold CR at h; obtain ⟨b, o, rfl, _⟩ := h; rfl
  | rs sz L => unfold CR at h; obtain ⟨A, c, rfl, _⟩ := h; rfl

section
variable {Z Z' : Nat → Prop} {w w' : World}
mutual
theorem CR_mono (hZ : ∀ b, Z b → Z' b) (hw : ∀ b, Z b → w'.heap[b]? = w.heap[b]?) : ∀ (x : RV) (u : Value), CR Z w x u → CR Z' w' x u
  | .v _, _, h => by unfold CR at h ⊢; exact h
  | .ro cs, _, h => by
    unfold CR at h ⊢
    obtain ⟨b, o, rfl, hb, hc⟩ := h
    exact ⟨b, o, rfl, hZ b hb, CAt_mono hZ hw cs b o hb hc⟩
  | .rs sz L, _, h => by
    unfold CR at h ⊢
    obtain ⟨A, c, rfl, h1, h2, h3⟩ := h
    refine ⟨A, c, rfl, h1, h2, ?_⟩
    rcases h3 with h3 | ⟨b, o, h3, hb, hc⟩
    · exact .inl h3
    · exact .inr ⟨b, o, h3, hZ b hb, CRows_mono hZ hw sz L b o hb hc⟩
theorem CAt_mono (hZ : ∀ b, Z b → Z' b) (hw : ∀ b, Z b → w'.heap[b]? = w.heap[b]?) : ∀ (cs : List RV) (b o : Nat), Z b → CAt Z w cs b o → CAt Z' w' cs b o
  | [], _, _, _, _ => by unfold CAt; trivial
  | c :: cs, b, o, hb, h => by
    unfold CAt at h ⊢
    obtain ⟨⟨u, h1, h2⟩, h3⟩ := h
    refine ⟨⟨u, ?_, CR_mono hZ hw c u h2⟩, CAt_mono hZ hw cs b (o + 1) hb h3⟩
    rw [World.cell?_of_block (w := w) (w' := w') (a := ⟨b, o, none⟩) (hw b hb)]
    exact h1
theorem CRows_mono (hZ : ∀ b, Z b → Z' b) (hw : ∀ b, Z b → w'.heap[b]? = w.heap[b]?) (sz : Nat) : ∀ (L : List (List RV)) (b o : Nat), Z b → CRows Z w sz L b o → CRows Z' w' sz L b o
  | [], _, _, _, _ => by unfold CRows; trivial
  | cs :: L, b, o, hb, h => by
    unfold CRows at h ⊢
    exact ⟨h.1, CAt_mono hZ hw cs b o hb h.2.1, CRows_mono hZ hw sz L b (o + sz) hb h.2.2⟩
end
end

mutual
def C (E : Env) (w : World) : AV → Value → Prop
  | .r x, u => CR E.Z w x u
  | .box i off, u => ∃ b, E.B[i]? = some b ∧ u = .pointer (some ⟨b, off, none⟩)
  | .sl k, u => E.V[k]? = some u ∧ u.oneCell' = true
  | .el k sz i off, u => ∃ b n c, E.V[k]? = some (.slice (some ⟨b, 0, none⟩) n c) ∧ u = .pointer (some ⟨b, i * sz + off, none⟩)
  | .agg cs, u => ∃ us, u = .agg (List.toArray us) ∧ CL E w cs us ∧ ∀ x ∈ us, x.oneCell' = true
  | .tup cs, u => ∃ us, u = .tuple (List.toArray us) ∧ CL E w cs us
  | .fn f cap, u => ∃ us, u = .func (.func f) #[] (List.toArray us) ∧ CL E w cap us
  | .junk, _ => True
def CL (E : Env) (w : World) : List AV → List Value → Prop
  | [], us => us = []
  | c :: cs, us => ∃ u r, us = u :: r ∧ C E w c u ∧ CL E w cs r
end

/-- One environment grows into another. -/
structure Env.le (E E' : Env) : Prop where
  B : ∀ (i b : Nat), E.B[i]? = some b → E'.B[i]? = some b
  V : ∀ (i : Nat) (b : Value), E.V[i]? = some b → E'.V[i]? = some b
  Z : ∀ b, E.Z b → E'.Z b
theorem Env.le_refl (E : Env) : E.le E := ⟨fun _ _ h => h, fun _ _ h => h, fun _ h => h⟩
theorem Env.le_trans {E E' E'' : Env} (h : E.le E') (h' : E'.le E'') : E.le E'' := ⟨fun i b k => h'.B i b (h.B i b k), fun i b k => h'.V i b (h.V i b k), fun b k => h'.Z b (h.Z b k)⟩

section
variable {E E' : Env} {w w' : World}
mutual
theorem C_mono (hE : E.le E') (hw : ∀ b, E.Z b → w'.heap[b]? = w.heap[b]?) : ∀ (x : AV) (u : Value), C E w x u → C E' w' x u
  | .r x, u, h => by unfold C at h ⊢; exact CR_mono hE.Z hw x u h
  | .box i off, u, h => by unfold C at h ⊢; obtain ⟨b, h1, h2⟩ := h; exact ⟨b, hE.B i b h1, h2⟩
  | .sl k, u, h => by unfold C at h ⊢; exact ⟨hE.V k u h.1, h.2⟩
  | .el k sz i off, u, h => by unfold C at h ⊢; obtain ⟨b, n, c, h1, h2⟩ := h; exact ⟨b, n, c, hE.V k _ h1, h2⟩
  | .agg cs, u, h => by unfold C at h ⊢; obtain ⟨us, h1, h2, h3⟩ := h; exact ⟨us, h1, CL_mono hE hw cs us h2, h3⟩
  | .tup cs, u, h => by unfold C at h ⊢; obtain ⟨us, h1, h2⟩ := h; exact ⟨us, h1, CL_mono hE hw cs us h2⟩
  | .fn f cap, u, h => by unfold C at h ⊢; obtain ⟨us, h1, h2⟩ := h; exact ⟨us, h1, CL_mono hE hw cap us h2⟩
  | .junk, u, h => by unfold C at h ⊢; exact h
theorem CL_mono (hE : E.le E') (hw : ∀ b, E.Z b → w'.heap[b]? = w.heap[b]?) : ∀ (xs : List AV) (us : List Value), CL E w xs us → CL E' w' xs us
  | [], us, h => by unfold CL at h ⊢; exact h
  | c :: cs, us, h => by
    unfold CL at h ⊢
    obtain ⟨u, r, h1, h2, h3⟩ := h
    exact ⟨u, r, h1, C_mono hE hw c u h2, CL_mono hE hw cs r h3⟩
end
end

theorem CL_length {E w} : ∀ {xs : List AV} {us : List Value}, CL E w xs us → us.length = xs.length
  | [], us, h => by unfold CL at h; subst h; rfl
  | c :: cs, us, h => by unfold CL at h; obtain ⟨u, r, rfl, _, h3⟩ := h; simp [CL_length h3]
theorem CL_get {E w} : ∀ {xs : List AV} {us : List Value}, CL E w xs us → ∀ {i : Nat} {x : AV}, xs[i]? = some x → ∃ u, us[i]? = some u ∧ C E w x u
  | [], us, h, i, x, hx => by simp at hx
  | c :: cs, us, h, i, x, hx => by
    unfold CL at h
    obtain ⟨u, r, rfl, h2, h3⟩ := h
    cases i with
    | zero => simp at hx; subst hx; exact ⟨u, by simp, h2⟩
    | succ i => simp at hx; obtain ⟨v, h4, h5⟩ := CL_get h3 hx; exact ⟨v, by simpa using h4, h5⟩
theorem CL_of {E w} : ∀ {xs : List AV} {us : List Value}, us.length = xs.length → (∀ (i : Nat) (x : AV) (u : Value), xs[i]? = some x → us[i]? = some u → C E w x u) → CL E w xs us
  | [], us, h, _ => by unfold CL; exact List.eq_nil_of_length_eq_zero h
  | c :: cs, us, h, k => by
    unfold CL
    cases us with
    | nil => simp at h
    | cons u r => exact ⟨u, r, rfl, k 0 c u rfl rfl, CL_of (by simpa using h) (fun i x v hx hv => k (i + 1) x v (by simpa using hx) (by simpa using hv))⟩
theorem CL_set {E w} {xs : List AV} {us : List Value} (h : CL E w xs us) (i : Nat) {x : AV} {u : Value} (hx : C E w x u) : CL E w (xs.set i x) (us.set i u) := by
  refine CL_of (by simp [CL_length h]) (fun j y v hy hv => ?_)
  by_cases hij : i = j
  · subst hij
    have hl : i < xs.length := by
      have := (List.getElem?_eq_some_iff.1 hy).1
      simpa using this
    have hl' : i < us.length := by rw [CL_length h]; exact hl
    simp [hl] at hy
    simp [hl'] at hv
    subst hy; subst hv
    exact hx
  · rw [List.getElem?_set_ne hij] at hy hv
    obtain ⟨v', h1, h2⟩ := CL_get h hy
    rw [h1] at hv
    cases hv
    exact h2
theorem CL_append {E w} : ∀ {xs ys : List AV} {us vs : List Value}, CL E w xs us → CL E w ys vs → CL E w (xs ++ ys) (us ++ vs)
  | [], ys, us, vs, h, h' => by unfold CL at h; subst h; exact h'
  | c :: cs, ys, us, vs, h, h' => by
    unfold CL at h
    obtain ⟨u, r, rfl, h2, h3⟩ := h
    show CL E w (c :: (cs ++ ys)) _
    unfold CL
    exact ⟨u, r ++ vs, rfl, h2, CL_append h3 h'⟩
theorem CL_drop {E w} {xs : List AV} {us : List Value} (h : CL E w xs us) (i : Nat) : CL E w (xs.drop i) (us.drop i) :=
  CL_of (by simp [CL_length h]) (fun j x u hx hu => by
    rw [List.getElem?_drop] at hx hu
    obtain ⟨v, h1, h2⟩ := CL_get h hx
    rw [h1] at hu
    cases hu
    exact h2)
theorem CL_take {E w} {xs : List AV} {us : List Value} (h : CL E w xs us) (i : Nat) : CL E w (xs.take i) (us.take i) :=
  CL_of (by simp [CL_length h]) (fun j x u hx hu => by
    rw [List.getElem?_take] at hx hu
    split at hx
    · rename_i hj
      rw [if_pos hj] at hu
      obtain ⟨v, h1, h2⟩ := CL_get h hx
      rw [h1] at hu
      cases hu
      exact h2
    · cases hx)
end Go.Proofs.Ytnenbopcoghmaaa.Kw
namespace Go.Proofs.Ytnenbopcoghmaaa.Kw
open Go
structure SE where
  e : TypeId
  sz : Nat
  L : List (List RV)
abbrev Hp := List (Option (TypeId × List AV))
abbrev Sp := List (Option SE)
abbrev Fr := List (Nat × AV)
def Fr.get : Fr → Nat → Option AV
  | [], _ => none
  | (d, x) :: F, n => match Nat.beq d n with
    | true => some x
    | false => Fr.get F n

def RL (Z : Nat → Prop) (w : World) : List RV → List Value → Prop
  | [], us => us = []
  | c :: cs, us => ∃ u r, us = u :: r ∧ CR Z w c u ∧ RL Z w cs r
def Rows (Z : Nat → Prop) (w : World) (sz : Nat) : List (List RV) → List Value → Prop
  | [], us => us = []
  | r :: L, us => ∃ a b, us = a ++ b ∧ r.length = sz ∧ RL Z w r a ∧ Rows Z w sz L b

section
variable {Z Z' : Nat → Prop} {w w' : World}
theorem RL_length : ∀ {xs : List RV} {us : List Value}, RL Z w xs us → us.length = xs.length
  | [], us, h => by unfold RL at h; subst h; rfl
  | c :: cs, us, h => by unfold RL at h; obtain ⟨u, r, rfl, _, h3⟩ := h; simp [RL_length h3]
theorem RL_one : ∀ {xs : List RV} {us : List Value}, RL Z w xs us → ∀ u ∈ us, u.oneCell' = true
  | [], us, h, u, hu => by unfold RL at h; subst h; simp at hu
  | c :: cs, us, h, u, hu => by
    unfold RL at h
    obtain ⟨v, r, rfl, h2, h3⟩ := h
    rcases List.mem_cons.1 hu with rfl | hu
    · exact CR_one h2
    · exact RL_one h3 u hu
theorem RL_mono (hZ : ∀ b, Z b → Z' b) (hw : ∀ b, Z b → w'.heap[b]? = w.heap[b]?) : ∀ {xs : List RV} {us : List Value}, RL Z w xs us → RL Z' w' xs us
  | [], us, h => by unfold RL at h ⊢; exact h
  | c :: cs, us, h => by
    unfold RL at h ⊢
    obtain ⟨u, r, h1, h2, h3⟩ := h
    exact ⟨u, r, h1, CR_mono hZ hw c u h2, RL_mono hZ hw h3⟩
theorem RL_get : ∀ {xs : List RV} {us : List Value}, RL Z w xs us → ∀ {i : Nat} {x : RV}, xs[i]? = some x → ∃ u, us[i]? = some u ∧ CR Z w x u
  | [], us, h, i, x, hx => by simp at hx
  | c :: cs, us, h, i, x, hx => by
    unfold RL at h
    obtain ⟨u, r, rfl, h2, h3⟩ := h
    cases i with
    | zero => simp at hx; subst hx; exact ⟨u, by simp, h2⟩
    | succ i => simp at hx; obtain ⟨v, h4, h5⟩ := RL_get h3 hx; exact ⟨v, by simpa using h4, h5⟩
theorem Rows_mono {sz : Nat} (hZ : ∀ b, Z b → Z' b) (hw : ∀ b, Z b → w'.heap[b]? = w.heap[b]?) : ∀ {L : List (List RV)} {us : List Value}, Rows Z w sz L us → Rows Z' w' sz L us
  | [], us, h => by unfold Rows at h ⊢; exact h
  | c :: cs, us, h => by
    unfold Rows at h ⊢
    obtain ⟨a, b, h1, h2, h3, h4⟩ := h
    exact ⟨a, b, h1, h2, RL_mono hZ hw h3, Rows_mono hZ hw h4⟩
theorem Rows_length {sz : Nat} : ∀ {L : List (List RV)} {us : List Value}, Rows Z w sz L us → us.length = L.length * sz
  | [], us, h => by unfold Rows at h; subst h; simp
  | c :: cs, us, h => by
    unfold Rows at h
    obtain ⟨a, b, rfl, h2, h3, h4⟩ := h
    rw [List.length_append, RL_length h3, h2, Rows_length h4, List.length_cons, Nat.add_mul, Nat.one_mul, Nat.add_comm]
theorem Rows_append {sz : Nat} : ∀ {L M : List (List RV)} {us vs : List Value}, Rows Z w sz L us → Rows Z w sz M vs → Rows Z w sz (L ++ M) (us ++ vs)
  | [], M, us, vs, h, h' => by unfold Rows at h; subst h; exact h'
  | c :: cs, M, us, vs, h, h' => by
    unfold Rows at h
    obtain ⟨a, b, rfl, h2, h3, h4⟩ := h
    show Rows Z w sz (c :: (cs ++ M)) _
    unfold Rows
    exact ⟨a, b ++ vs, by simp, h2, h3, Rows_append h4 h'⟩
theorem Rows_one {sz : Nat} {r : List RV} {us : List Value} (hl : r.length = sz) (h : RL Z w r us) : Rows Z w sz [r] us := by
  unfold Rows
  exact ⟨us, [], by simp, hl, h, by unfold Rows; rfl⟩
theorem Rows_cells {sz : Nat} : ∀ {L : List (List RV)} {us : List Value}, Rows Z w sz L us → ∀ u ∈ us, u.oneCell' = true
  | [], us, h, u, hu => by unfold Rows at h; subst h; simp at hu
  | c :: cs, us, h, u, hu => by
    unfold Rows at h
    obtain ⟨a, b, rfl, h2, h3, h4⟩ := h
    rcases List.mem_append.1 hu with hu | hu
    · exact RL_one h3 u hu
    · exact Rows_cells h4 u hu
/-- Element i, cell j. -/
theorem Rows_get {sz : Nat} : ∀ {L : List (List RV)} {us : List Value}, Rows Z w sz L us → ∀ {i : Nat} {r : List RV}, L[i]? = some r → ∃ vs, (us.drop (i * sz)).take sz = vs ∧ r.length = sz ∧ RL Z w r vs
  | [], us, h, i, r, hr => by simp at hr
  | c :: cs, us, h, i, r, hr => by
    unfold Rows at h
    obtain ⟨a, b, rfl, h2, h3, h4⟩ := h
    have hl := RL_length h3
    cases i with
    | zero =>
      simp at hr; subst hr
      exact ⟨a, by simp [← h2, ← hl], h2, h3⟩
    | succ i =>
      simp at hr
      obtain ⟨vs, h5, h6, h7⟩ := Rows_get h4 hr
      refine ⟨vs, ?_, h6, h7⟩
      rw [← h5, show (i + 1) * sz = a.length + i * sz from by rw [hl, h2, Nat.add_mul, Nat.one_mul, Nat.add_comm], ← List.drop_drop, List.drop_left]
theorem Rows_cell {sz : Nat} {L : List (List RV)} {us : List Value} (h : Rows Z w sz L us) {i j : Nat} {r : List RV} {x : RV} (hr : L[i]? = some r) (hx : r[j]? = some x) : ∃ u, us[i * sz + j]? = some u ∧ CR Z w x u := by
  obtain ⟨vs, h1, h2, h3⟩ := Rows_get h hr
  obtain ⟨u, h4, h5⟩ := RL_get h3 hx
  refine ⟨u, ?_, h5⟩
  subst h1
  rw [List.getElem?_take] at h4
  split at h4
  · rw [List.getElem?_drop] at h4; exact h4
  · cases h4
end

/-- What may be written of the elder memory; what was told as read only at the beginning. -/
structure Org where
  X : Nat → Prop
  Z0 : Nat → Prop
structure Sat (w0 : World) (X : Org) (E : Env) (H : Hp) (S : Sp) (w : World) : Prop where
  lB : E.B.length = H.length
  lV : E.V.length = S.length
  box : ∀ (i : Nat) (t : TypeId) (cs : List AV), H[i]? = some (some (t, cs)) → ∃ b us, E.B[i]? = some b ∧ w.heap[b]? = some (.cells (List.toArray us) t (0, 0)) ∧ CL E w cs us ∧ ∀ x ∈ us, x.oneCell' = true
  sl : ∀ (k : Nat) (e : SE), S[k]? = some (some e) → ∃ v cs, E.V[k]? = some v ∧ w.ownsRow 0 e.e e.sz v e.L.length cs ∧ Rows E.Z w e.sz e.L cs
  bB : ∀ (i b : Nat), E.B[i]? = some b → b < w.heap.size ∧ (w0.heap.size ≤ b ∨ X.X b) ∧ ¬ E.Z b
  bV : ∀ (k : Nat) (e : SE) (v : Value) (b : Nat), S[k]? = some (some e) → E.V[k]? = some v → v.ownBlock = some b → (w0.heap.size ≤ b ∨ X.X b) ∧ ¬ E.Z b
  BB : ∀ (i j b : Nat), E.B[i]? = some b → E.B[j]? = some b → i = j
  BV : ∀ (i k : Nat) (e : SE) (v : Value) (b : Nat), E.B[i]? = some b → S[k]? = some (some e) → E.V[k]? = some v → v.ownBlock ≠ some b
  VV : ∀ (k l : Nat) (e e' : SE) (v v' : Value) (b : Nat), S[k]? = some (some e) → S[l]? = some (some e') → E.V[k]? = some v → E.V[l]? = some v' → v.ownBlock = some b → v'.ownBlock = some b → k = l
  Z : ∀ b, E.Z b → b < w.heap.size
  old : ∀ b, b < w0.heap.size → ¬ X.X b → w.heap[b]? = w0.heap[b]?
  size : w0.heap.size ≤ w.heap.size
  os : w.os = w0.os
  tape : w.tape = w0.tape
  output : w.output = w0.output
  zin : ∀ b, E.Z b → X.Z0 b ∨ w0.heap.size ≤ b
  zup : ∀ b, X.Z0 b → E.Z b

/-- A world in which nothing that is told has turned. -/
structure Stays (E : Env) (H : Hp) (S : Sp) (w w' : World) : Prop where
  size : w.heap.size ≤ w'.heap.size
  block : ∀ b, b < w.heap.size → w'.heap[b]? = w.heap[b]?
  os : w'.os = w.os
  tape : w'.tape = w.tape
  output : w'.output = w.output
theorem own_stays {w w' : World} {base : Nat} {e : TypeId} {size n : Nat} {v : Value} {xs : List Value} (h : w.ownsRow base e size v n xs) (hm : ∀ k, v.ownBlock = some k → w'.heap[k]? = w.heap[k]?) : w'.ownsRow base e size v n xs := by
  obtain ⟨h1, h2⟩ := h
  refine ⟨h1, ?_⟩
  rcases h2 with h2 | ⟨g, cap, cur, rfl, hg, hh, r⟩
  · exact .inl h2
  · exact .inr ⟨g, cap, cur, rfl, hg, (hm g (by simp [Value.ownBlock])).trans hh, r⟩
theorem own_block_lt {w : World} {base : Nat} {e : TypeId} {size n : Nat} {v : Value} {xs : List Value} (h : w.ownsRow base e size v n xs) : ∀ k, v.ownBlock = some k → k < w.heap.size := by
  intro k hk
  obtain ⟨h1, h2⟩ := h
  rcases h2 with ⟨rfl, _⟩ | ⟨g, cap, cur, rfl, hg, hh, r⟩
  · simp [Value.ownBlock] at hk
  · simp [Value.ownBlock] at hk
    subst hk
    exact (Array.getElem?_eq_some_iff.1 hh).1
section
variable {w0 w w' : World} {X : Org} {E : Env} {H : Hp} {S : Sp}
/-- More memory, the old as it was. -/
theorem Sat.stays (h : Sat w0 X E H S w) (hs : Stays E H S w w') : Sat w0 X E H S w' where
  lB := h.lB
  lV := h.lV
  box := fun i t cs hi => by
    obtain ⟨b, us, h1, h2, h3, h4⟩ := h.box i t cs hi
    exact ⟨b, us, h1, (hs.block b (h.bB i b h1).1).trans h2, CL_mono (Env.le_refl E) (fun b hb => hs.block b (h.Z b hb)) cs us h3, h4⟩
  sl := fun k e hk => by
    obtain ⟨v, cs, h1, h2, h3⟩ := h.sl k e hk
    exact ⟨v, cs, h1, own_stays h2 (fun b hb => hs.block b (own_block_lt h2 b hb)), Rows_mono (fun _ h => h) (fun b hb => hs.block b (h.Z b hb)) h3⟩
  bB := fun i b hi => ⟨Nat.lt_of_lt_of_le (h.bB i b hi).1 hs.size, (h.bB i b hi).2⟩
  bV := h.bV
  BB := h.BB
  BV := h.BV
  VV := h.VV
  Z := fun b hb => Nat.lt_of_lt_of_le (h.Z b hb) hs.size
  old := fun b hb hx => (hs.block b (Nat.lt_of_lt_of_le hb h.size)).trans (h.old b hb hx)
  size := Nat.le_trans h.size hs.size
  os := hs.os.trans h.os
  tape := hs.tape.trans h.tape
  output := hs.output.trans h.output
  zin := h.zin
  zup := h.zup
theorem Stays.drew (E : Env) (H : Hp) (S : Sp) (w : World) : Stays E H S w w.drew := ⟨Nat.le_refl _, fun _ _ => rfl, rfl, rfl, rfl⟩
theorem stays_push (E : Env) (H : Hp) (S : Sp) (w : World) (o : Obj) : Stays E H S w { w with heap := w.heap.push o } :=
  ⟨by simp, fun b hb => by simp [Array.getElem?_push, Nat.ne_of_lt hb], rfl, rfl, rfl⟩
theorem CL_ext {E' : Env} (h : E.le E') {cs : List AV} {us : List Value} (k : CL E w cs us) : CL E' w cs us := CL_mono h (fun _ _ => rfl) cs us k
theorem le_B (E : Env) (b : Nat) : E.le { E with B := E.B ++ [b] } :=
  ⟨fun i x h => by
    show (E.B ++ [b])[i]? = some x
    rw [List.getElem?_append_left (List.getElem?_eq_some_iff.1 h).1]; exact h, fun _ _ h => h, fun _ h => h⟩
theorem le_V (E : Env) (v : Value) : E.le { E with V := E.V ++ [v] } :=
  ⟨fun _ _ h => h, fun i x h => by
    show (E.V ++ [v])[i]? = some x
    rw [List.getElem?_append_left (List.getElem?_eq_some_iff.1 h).1]; exact h, fun _ h => h⟩
theorem get_snoc {α : Type} {l : List α} {x y : α} {i : Nat} (h : (l ++ [x])[i]? = some y) : l[i]? = some y ∨ (i = l.length ∧ y = x) := by
  rcases Nat.lt_trichotomy i l.length with hi | hi | hi
  · left; rwa [List.getElem?_append_left hi] at h
  · right; subst hi; simp at h; exact ⟨rfl, h.symm⟩
  · rw [List.getElem?_eq_none (by simp; omega)] at h; cases h
/-- A new block of the call's own. -/
theorem Sat.new (h : Sat w0 X E H S w) {t : TypeId} {cs : List AV} {us : List Value} (hc : CL E w cs us) (h1 : ∀ x ∈ us, x.oneCell' = true) :
    Sat w0 X { E with B := E.B ++ [w.heap.size] } (H ++ [some (t, cs)]) S { w with heap := w.heap.push (.cells (List.toArray us) t (0, 0)) } := by
  have hs := stays_push E H S w (.cells (List.toArray us) t (0, 0))
  have h' := h.stays hs
  have hle := le_B E w.heap.size
  have nB : ∀ i, E.B[i]? ≠ some w.heap.size := fun i hi => absurd (h.bB i _ hi).1 (Nat.lt_irrefl _)
  refine ⟨by simp [h.lB], h.lV, ?_, ?_, ?_, ?_, ?_, ?_, h.VV, h'.Z, h'.old, h'.size, h'.os, h'.tape, h'.output, h.zin, h.zup⟩
  · intro i t' cs' hi
    rcases get_snoc hi with hi | ⟨rfl, he⟩
    · obtain ⟨b, vs, k1, k2, k3, k4⟩ := h'.box i t' cs' hi
      exact ⟨b, vs, hle.B i b k1, k2, CL_ext hle k3, k4⟩
    · simp only [Option.some.injEq, Prod.mk.injEq] at he
      obtain ⟨rfl, rfl⟩ := he
      refine ⟨w.heap.size, us, by simp [← h.lB], by simp, CL_ext hle (CL_mono (Env.le_refl E) (fun b hb => hs.block b (h.Z b hb)) _ _ hc), h1⟩
  · intro k e hk
    exact h'.sl k e hk
  · intro i b hi
    rcases get_snoc hi with hi | ⟨_, rfl⟩
    · exact h'.bB i b hi
    · exact ⟨by simp, .inl h.size, fun hz => absurd (h.Z _ hz) (Nat.lt_irrefl _)⟩
  · exact h'.bV
  · intro i j b hi hj
    rcases get_snoc hi with hi | ⟨ei, eb⟩ <;> rcases get_snoc hj with hj | ⟨ej, eb'⟩
    · exact h.BB i j b hi hj
    · rw [eb'] at hi; exact absurd hi (nB i)
    · rw [eb] at hj; exact absurd hj (nB j)
    · rw [ei, ej]
  · intro i k e v b hi hk hv
    rcases get_snoc hi with hi | ⟨rfl, rfl⟩
    · exact h.BV i k e v b hi hk hv
    · intro hb
      obtain ⟨v', cs', k1, k2, _⟩ := h.sl k e hk
      rw [hv] at k1; cases k1
      exact absurd (own_block_lt k2 _ hb) (Nat.lt_irrefl _)
end
end Go.Proofs.Ytnenbopcoghmaaa.Kw
namespace Go.Proofs.Ytnenbopcoghmaaa.Kw
open Go
/-! ### what changes the state -/
section
variable {w0 w w' : World} {X : Org} {E : Env} {H : Hp} {S : Sp}
theorem get_set {α : Type} {l : List α} {i j : Nat} {x y : α} (h : (l.set i x)[j]? = some y) : (i = j ∧ y = x ∧ i < l.length) ∨ (i ≠ j ∧ l[j]? = some y) := by
  by_cases hij : i = j
  · subst hij
    have hl : i < l.length := by have := (List.getElem?_eq_some_iff.1 h).1; simpa using this
    simp [hl] at h
    exact .inl ⟨rfl, h.symm, hl⟩
  · rw [List.getElem?_set_ne hij] at h
    exact .inr ⟨hij, h⟩
/-- A block of the call's own is written. -/
theorem Sat.upd (h : Sat w0 X E H S w) {i b : Nat} {t : TypeId} {cs cs' : List AV} {us' : List Value} (hi : H[i]? = some (some (t, cs))) (hb : E.B[i]? = some b) (hsz : w'.heap.size = w.heap.size)
    (hbk : w'.heap[b]? = some (.cells (List.toArray us') t (0, 0))) (hoth : ∀ k, k ≠ b → w'.heap[k]? = w.heap[k]?) (hos : w'.os = w.os) (htp : w'.tape = w.tape) (hout : w'.output = w.output)
    (hc : CL E w cs' us') (h1 : ∀ x ∈ us', x.oneCell' = true) : Sat w0 X E (H.set i (some (t, cs'))) S w' := by
  have hz : ∀ k, E.Z k → w'.heap[k]? = w.heap[k]? := fun k hk => hoth k (fun e => (h.bB i b hb).2.2 (e ▸ hk))
  refine ⟨by simp [h.lB], h.lV, ?_, ?_, ?_, h.bV, h.BB, h.BV, h.VV, ?_, ?_, by rw [hsz]; exact h.size, hos.trans h.os, htp.trans h.tape, hout.trans h.output, h.zin, h.zup⟩
  · intro j t' ds hj
    rcases get_set hj with ⟨rfl, he, _⟩ | ⟨hne, hj⟩
    · simp only [Option.some.injEq, Prod.mk.injEq] at he
      obtain ⟨rfl, rfl⟩ := he
      exact ⟨b, us', hb, hbk, CL_mono (Env.le_refl E) hz _ _ hc, h1⟩
    · obtain ⟨b', vs, k1, k2, k3, k4⟩ := h.box j t' ds hj
      exact ⟨b', vs, k1, (hoth b' (fun e => hne (h.BB i j b hb (e ▸ k1)))).trans k2, CL_mono (Env.le_refl E) hz _ _ k3, k4⟩
  · intro k e hk
    obtain ⟨v, ds, k1, k2, k3⟩ := h.sl k e hk
    exact ⟨v, ds, k1, own_stays k2 (fun b' hb' => hoth b' (fun e' => h.BV i k e v b hb hk k1 (e' ▸ hb'))), Rows_mono (fun _ h => h) hz k3⟩
  · intro j b' hj; rw [hsz]; exact h.bB j b' hj
  · intro b' hb'; rw [hsz]; exact h.Z b' hb'
  · intro b' hb' hx
    refine (hoth b' (fun e => ?_)).trans (h.old b' hb' hx)
    subst e
    rcases (h.bB i _ hb).2.1 with h2 | h2
    · omega
    · exact hx h2
/-- A new slice of the call's own; everything else stays. -/
theorem Sat.newV (h : Sat w0 X E H S w) (hs : Stays E H S w w') {e : SE} {v : Value} {cs : List Value} (ho : w'.ownsRow 0 e.e e.sz v e.L.length cs) (hr : Rows E.Z w' e.sz e.L cs) (hv : ∀ b, v.ownBlock = some b → w.heap.size ≤ b) :
    Sat w0 X { E with V := E.V ++ [v] } H (S ++ [some e]) w' := by
  have h' := h.stays hs
  have hle := le_V E v
  refine ⟨h'.lB, by simp [h.lV], ?_, ?_, h'.bB, ?_, h'.BB, ?_, ?_, h'.Z, h'.old, h'.size, h'.os, h'.tape, h'.output, h.zin, h.zup⟩
  · intro i t ds hi
    obtain ⟨b, us, k1, k2, k3, k4⟩ := h'.box i t ds hi
    exact ⟨b, us, k1, k2, CL_ext hle k3, k4⟩
  · intro k e' hk
    rcases get_snoc hk with hk | ⟨rfl, he⟩
    · obtain ⟨u, ds, k1, k2, k3⟩ := h'.sl k e' hk
      exact ⟨u, ds, hle.V k u k1, k2, k3⟩
    · simp only [Option.some.injEq] at he
      subst he
      exact ⟨v, cs, by simp [← h.lV], ho, hr⟩
  · intro k e' u b hk hu hb
    rcases get_snoc hk with hk | ⟨rfl, he⟩
    · obtain ⟨u', ds, k1, k2, k3⟩ := h.sl k e' hk
      have := hle.V k u' k1
      rw [hu] at this; cases this
      exact h.bV k e' u b hk k1 hb
    · have : u = v := by simpa [← h.lV] using hu.symm
      subst this
      have := hv b hb
      exact ⟨.inl (Nat.le_trans h.size this), fun hz => absurd (h.Z b hz) (by omega)⟩
  · intro i k e' u b hi hk hu
    rcases get_snoc hk with hk | ⟨rfl, he⟩
    · obtain ⟨u', ds, k1, k2, k3⟩ := h.sl k e' hk
      have := hle.V k u' k1
      rw [hu] at this; cases this
      exact h.BV i k e' u b hi hk k1
    · have : u = v := by simpa [← h.lV] using hu.symm
      subst this
      intro hb
      have := hv b hb
      have := (h.bB i b hi).1
      omega
  · intro k l e1 e2 u1 u2 b hk hl h1 h2 hb1 hb2
    have old : ∀ (j : Nat) (ej : SE) (uj : Value), S[j]? = some (some ej) → (E.V ++ [v])[j]? = some uj → E.V[j]? = some uj := by
      intro j ej uj hj huj
      obtain ⟨u', ds, k1, k2, k3⟩ := h.sl j ej hj
      have := hle.V j u' k1
      rw [huj] at this; cases this
      exact k1
    have lt : ∀ (j : Nat) (ej : SE) (uj : Value), S[j]? = some (some ej) → E.V[j]? = some uj → ∀ x, uj.ownBlock = some x → x < w.heap.size := by
      intro j ej uj hj huj x hx
      obtain ⟨u', ds, k1, k2, k3⟩ := h.sl j ej hj
      rw [huj] at k1; cases k1
      exact own_block_lt k2 x hx
    rcases get_snoc hk with hk | ⟨rfl, he⟩ <;> rcases get_snoc hl with hl | ⟨rfl, he'⟩
    · exact h.VV k l e1 e2 u1 u2 b hk hl (old _ _ _ hk h1) (old _ _ _ hl h2) hb1 hb2
    · have : u2 = v := by simpa [← h.lV] using h2.symm
      subst this
      have := lt _ _ _ hk (old _ _ _ hk h1) b hb1
      have := hv b hb2
      omega
    · have : u1 = v := by simpa [← h.lV] using h1.symm
      subst this
      have := lt _ _ _ hl (old _ _ _ hl h2) b hb2
      have := hv b hb1
      omega
    · rfl
end
/-! ### a slice takes another value: what spoke of it is forgotten -/
mutual
def noK (k : Nat) : AV → Bool
  | .r _ => true
  | .box _ _ => true
  | .sl j => !Nat.beq j k
  | .el j _ _ _ => !Nat.beq j k
  | .agg cs => noKL k cs
  | .tup cs => noKL k cs
  | .fn _ cs => noKL k cs
  | .junk => true
def noKL (k : Nat) : List AV → Bool
  | [] => true
  | c :: cs => noK k c && noKL k cs
end
def cutK (k : Nat) (x : AV) : AV := match noK k x with
  | true => x
  | false => .junk
def cutF (k : Nat) : Fr → Fr
  | [] => []
  | (d, x) :: F => (d, cutK k x) :: cutF k F
def cutL (k : Nat) : List AV → List AV
  | [] => []
  | x :: F => cutK k x :: cutL k F
def cutH (k : Nat) : Hp → Hp
  | [] => []
  | none :: H => none :: cutH k H
  | some (t, cs) :: H => some (t, cutL k cs) :: cutH k H
theorem ne_of_nbeq {j k : Nat} (h : (!Nat.beq j k) = true) : j ≠ k := by
  rintro rfl
  simp [Nat.beq_refl] at h
section
variable {E : Env} {w : World} {k : Nat} {v : Value}
mutual
theorem C_setV : ∀ (x : AV) (u : Value), noK k x = true → C E w x u → C { E with V := E.V.set k v } w x u
  | .r x, u, _, h => by unfold C at h ⊢; exact h
  | .box i off, u, _, h => by unfold C at h ⊢; exact h
  | .sl j, u, hn, h => by
    unfold C at h ⊢
    have hj : j ≠ k := ne_of_nbeq hn
    refine ⟨?_, h.2⟩
    show (E.V.set k v)[j]? = some u
    rw [List.getElem?_set_ne (Ne.symm hj)]; exact h.1
  | .el j sz i off, u, hn, h => by
    unfold C at h ⊢
    obtain ⟨b, n, c, h1, h2⟩ := h
    have hj : j ≠ k := ne_of_nbeq hn
    refine ⟨b, n, c, ?_, h2⟩
    show (E.V.set k v)[j]? = _
    rw [List.getElem?_set_ne (Ne.symm hj)]; exact h1
  | .agg cs, u, hn, h => by unfold C at h ⊢; obtain ⟨us, h1, h2, h3⟩ := h; exact ⟨us, h1, CL_setV cs us hn h2, h3⟩
  | .tup cs, u, hn, h => by unfold C at h ⊢; obtain ⟨us, h1, h2⟩ := h; exact ⟨us, h1, CL_setV cs us hn h2⟩
  | .fn f cs, u, hn, h => by unfold C at h ⊢; obtain ⟨us, h1, h2⟩ := h; exact ⟨us, h1, CL_setV cs us hn h2⟩
  | .junk, u, _, h => by unfold C; exact trivial
theorem CL_setV : ∀ (xs : List AV) (us : List Value), noKL k xs = true → CL E w xs us → CL { E with V := E.V.set k v } w xs us
  | [], us, _, h => by unfold CL at h ⊢; exact h
  | c :: cs, us, hn, h => by
    unfold CL at h ⊢
    unfold noKL at hn
    rw [Bool.and_eq_true] at hn
    obtain ⟨u, r, h1, h2, h3⟩ := h
    exact ⟨u, r, h1, C_setV c u hn.1 h2, CL_setV cs r hn.2 h3⟩
end
theorem C_cut {x : AV} {u : Value} (h : C E w x u) : C { E with V := E.V.set k v } w (cutK k x) u := by
  unfold cutK
  cases hn : noK k x with
  | true => exact C_setV x u hn h
  | false => unfold C; exact trivial
theorem CL_cut : ∀ {xs : List AV} {us : List Value}, CL E w xs us → CL { E with V := E.V.set k v } w (cutL k xs) us
  | [], us, h => by unfold CL at h; subst h; show CL _ w [] _; unfold CL; rfl
  | c :: cs, us, h => by
    unfold CL at h
    obtain ⟨u, r, h1, h2, h3⟩ := h
    show CL _ w (cutK k c :: cutL k cs) us
    unfold CL
    exact ⟨u, r, h1, C_cut h2, CL_cut h3⟩
theorem cutF_get : ∀ {F : Fr} {d : Nat} {y : AV}, Fr.get (cutF k F) d = some y → ∃ x, Fr.get F d = some x ∧ y = cutK k x
  | [], d, y, h => by simp [cutF, Fr.get] at h
  | (d', x) :: F, d, y, h => by
    simp only [cutF, Fr.get] at h ⊢
    cases hd : Nat.beq d' d with
    | true => rw [hd] at h; simp at h; exact ⟨x, rfl, h.symm⟩
    | false => rw [hd] at h; exact cutF_get h
theorem cutH_length : ∀ (H : Hp), (cutH k H).length = H.length
  | [] => rfl
  | none :: H => by simp [cutH, cutH_length H]
  | some (t, cs) :: H => by simp [cutH, cutH_length H]
theorem cutH_get : ∀ {H : Hp} {i : Nat} {t : TypeId} {ds : List AV}, (cutH k H)[i]? = some (some (t, ds)) → ∃ cs, H[i]? = some (some (t, cs)) ∧ ds = cutL k cs
  | [], i, t, ds, h => by simp [cutH] at h
  | none :: H, i, t, ds, h => by
    cases i with
    | zero => simp [cutH] at h
    | succ i => simp only [cutH, List.getElem?_cons_succ] at h ⊢; exact cutH_get h
  | some (t', cs) :: H, i, t, ds, h => by
    cases i with
    | zero => simp [cutH] at h; obtain ⟨rfl, rfl⟩ := h; exact ⟨cs, by simp, rfl⟩
    | succ i => simp only [cutH, List.getElem?_cons_succ] at h ⊢; exact cutH_get h
end
section
variable {w0 w w' : World} {X : Org} {E : Env} {H : Hp} {S : Sp}
/-- Slice k takes another value (it was appended to, written, cut): of its old block or of a new one. -/
theorem Sat.setV (h : Sat w0 X E H S w) {k : Nat} {e e' : SE} {v v' : Value} {cs : List Value} (hk : S[k]? = some (some e)) (hv : E.V[k]? = some v) (hg : w.grownBy w' v.ownBlock)
    (hb : ∀ b, v'.ownBlock = some b → v.ownBlock = some b ∨ w.heap.size ≤ b) (ho : w'.ownsRow 0 e'.e e'.sz v' e'.L.length cs) (hr : Rows E.Z w' e'.sz e'.L cs) :
    Sat w0 X { E with V := E.V.set k v' } (cutH k H) (S.set k (some e')) w' := by
  have hz : ∀ b, E.Z b → w'.heap[b]? = w.heap[b]? := fun b hbz => hg.block b (h.Z b hbz) (fun e1 => (h.bV k e v b hk hv e1.symm).2 hbz)
  have hkl : k < S.length := (List.getElem?_eq_some_iff.1 hk).1
  have lt : ∀ (j : Nat) (ej : SE) (uj : Value), S[j]? = some (some ej) → E.V[j]? = some uj → ∀ x, uj.ownBlock = some x → x < w.heap.size := by
    intro j ej uj hj huj x hx
    obtain ⟨u', ds, k1, k2, k3⟩ := h.sl j ej hj
    rw [huj] at k1; cases k1
    exact own_block_lt k2 x hx
  refine ⟨by rw [cutH_length]; exact h.lB, by simp [h.lV], ?_, ?_, ?_, ?_, h.BB, ?_, ?_, fun b hbz => Nat.lt_of_lt_of_le (h.Z b hbz) hg.size, ?_, Nat.le_trans h.size hg.size, hg.os.trans h.os, hg.tape.trans h.tape, hg.output.trans h.output, h.zin, h.zup⟩
  · intro i t ds hi
    obtain ⟨cs0, hi0, rfl⟩ := cutH_get hi
    obtain ⟨b, us, k1, k2, k3, k4⟩ := h.box i t cs0 hi0
    exact ⟨b, us, k1, (hg.block b (h.bB i b k1).1 (fun e1 => h.BV i k e v b k1 hk hv e1.symm)).trans k2, CL_cut (CL_mono (Env.le_refl E) hz _ _ k3), k4⟩
  · intro j ej hj
    rcases get_set hj with ⟨rfl, he, _⟩ | ⟨hne, hj⟩
    · simp only [Option.some.injEq] at he
      subst he
      refine ⟨v', cs, ?_, ho, hr⟩
      show (E.V.set k v')[k]? = some v'
      rw [List.getElem?_set_self (by rw [h.lV]; exact hkl)]
    · obtain ⟨u, ds, k1, k2, k3⟩ := h.sl j ej hj
      refine ⟨u, ds, ?_, own_stays k2 (fun b hbu => hg.block b (own_block_lt k2 b hbu) (fun e1 => hne (h.VV k j e ej v u b hk hj hv k1 e1.symm hbu))), Rows_mono (fun _ h => h) hz k3⟩
      show (E.V.set k v')[j]? = some u
      rw [List.getElem?_set_ne hne]; exact k1
  · intro i b hi; exact ⟨Nat.lt_of_lt_of_le (h.bB i b hi).1 hg.size, (h.bB i b hi).2⟩
  · intro j ej u b hj hu hbu
    rcases get_set hj with ⟨rfl, he, _⟩ | ⟨hne, hj⟩
    · have hu' : (E.V.set k v')[k]? = some u := hu
      rw [List.getElem?_set_self (by rw [h.lV]; exact hkl)] at hu'
      cases hu'
      rcases hb b hbu with h1 | h1
      · exact h.bV k e v b hk hv h1
      · exact ⟨.inl (Nat.le_trans h.size h1), fun hz' => absurd (h.Z b hz') (by omega)⟩
    · have hu' : (E.V.set k v')[j]? = some u := hu
      rw [List.getElem?_set_ne hne] at hu'
      exact h.bV j ej u b hj hu' hbu
  · intro i j ej u b hi hj hu hbu
    rcases get_set hj with ⟨rfl, he, _⟩ | ⟨hne, hj⟩
    · have hu' : (E.V.set k v')[k]? = some u := hu
      rw [List.getElem?_set_self (by rw [h.lV]; exact hkl)] at hu'
      cases hu'
      rcases hb b hbu with h1 | h1
      · exact h.BV i k e v b hi hk hv h1
      · have := (h.bB i b hi).1; omega
    · have hu' : (E.V.set k v')[j]? = some u := hu
      rw [List.getElem?_set_ne hne] at hu'
      exact h.BV i j ej u b hi hj hu' hbu
  · intro j l e1 e2 u1 u2 b hj hl h1 h2 hb1 hb2
    have at_ : ∀ (j : Nat) (ej : Option SE) (uj : Value), (S.set k (some e'))[j]? = some ej → (E.V.set k v')[j]? = some uj → (j = k ∧ uj = v') ∨ (j ≠ k ∧ S[j]? = some ej ∧ E.V[j]? = some uj) := by
      intro j ej uj hj huj
      by_cases hjk : j = k
      · subst hjk
        rw [List.getElem?_set_self (by rw [h.lV]; exact hkl)] at huj
        cases huj
        exact .inl ⟨rfl, rfl⟩
      · rw [List.getElem?_set_ne (Ne.symm hjk)] at hj huj
        exact .inr ⟨hjk, hj, huj⟩
    rcases at_ j _ u1 hj h1 with ⟨rfl, rfl⟩ | ⟨hjk, hj', h1'⟩ <;> rcases at_ l _ u2 hl h2 with ⟨rfl, rfl⟩ | ⟨hlk, hl', h2'⟩
    · rfl
    · rcases hb b hb1 with h3 | h3
      · exact h.VV _ l e e2 v u2 b hk hl' hv h2' h3 hb2
      · have := lt l e2 u2 hl' h2' b hb2; omega
    · rcases hb b hb2 with h3 | h3
      · exact h.VV j _ e1 e u1 v b hj' hk h1' hv hb1 h3
      · have := lt j e1 u1 hj' h1' b hb1; omega
    · exact h.VV j l e1 e2 u1 u2 b hj' hl' h1' h2' hb1 hb2
  · intro b hb0 hx
    refine (hg.block b (Nat.lt_of_lt_of_le hb0 h.size) (fun e1 => ?_)).trans (h.old b hb0 hx)
    rcases (h.bV k e v b hk hv e1.symm).1 with h2 | h2
    · omega
    · exact hx h2
end
end Go.Proofs.Ytnenbopcoghmaaa.Kw
namespace Go.Proofs.Ytnenbopcoghmaaa.Kw
open Go
/-! ### what is known of types -/
structure Ty where
  agg : Bool
  size : Nat
  bytes : Nat
  zero : List Value
  fields : List (Nat × Nat × Bool)
  elem : Option TypeId
  ik : Option IntKind
  bl : Bool
def isAggD : TypeDesc → Bool
  | .struct _ => true
  | .array _ _ => true
  | _ => false
def tyFields (P : Program) : List Field → Option (List (Nat × Nat × Bool))
  | [] => some []
  | f :: fs => match P.info? f.type, P.underlying f.type, tyFields P fs with
    | some i, some d, some r => some ((f.offset, i.size, isAggD d) :: r)
    | _, _, _ => none
def tyOf (P : Program) (t : TypeId) : Option Ty := match P.underlying t, P.info? t with
  | some d, some i => match i.zero with
    | some z => match d with
      | .struct fs => match tyFields P fs.toList with
        | some r => some ⟨true, i.size, i.bytes, z.cells.toList, r, none, none, false⟩
        | none => none
      | .slice e => some ⟨false, i.size, i.bytes, z.cells.toList, [], some e, none, false⟩
      | .int k => some ⟨false, i.size, i.bytes, z.cells.toList, [], none, some k, false⟩
      | .bool => some ⟨false, i.size, i.bytes, z.cells.toList, [], none, none, true⟩
      | d => some ⟨isAggD d, i.size, i.bytes, z.cells.toList, [], none, none, false⟩
    | none => none
  | _, _ => none
abbrev Tab := List (TypeId × Ty)
def Tab.get : Tab → TypeId → Option Ty
  | [], _ => none
  | (d, x) :: F, n => match Nat.beq d n with
    | true => some x
    | false => Tab.get F n
def TabOk (P : Program) (T : Tab) : Prop := ∀ t y, T.get t = some y → tyOf P t = some y
theorem TabOk.nil (P : Program) : TabOk P [] := fun _ _ h => by cases h
theorem TabOk.cons {P : Program} {T : Tab} {t : TypeId} {y : Ty} (h : tyOf P t = some y) (hT : TabOk P T) : TabOk P ((t, y) :: T) := by
  intro t' y' h'
  unfold Tab.get at h'
  cases hb : Nat.beq t t' with
  | true =>
    rw [hb] at h'
    simp at h'
    have : t = t' := Nat.eq_of_beq_eq_true hb
    subst this; subst h'
    exact h
  | false => rw [hb] at h'; exact hT t' y' h'
section
variable {P : Program} {t : TypeId} {y : Ty}
theorem tyOf_zero (h : tyOf P t = some y) : ∃ i z, P.info? t = some i ∧ i.size = y.size ∧ i.bytes = y.bytes ∧ i.zero = some z ∧ z.cells.toList = y.zero := by
  unfold tyOf at h
  split at h
  · rename_i d i hd hi
    split at h
    · rename_i z hz
      refine ⟨i, z, hi, ?_⟩
      split at h
      · split at h
        · cases h; exact ⟨rfl, rfl, hz, rfl⟩
        · cases h
      · cases h; exact ⟨rfl, rfl, hz, rfl⟩
      · cases h; exact ⟨rfl, rfl, hz, rfl⟩
      · cases h; exact ⟨rfl, rfl, hz, rfl⟩
      · cases h; exact ⟨rfl, rfl, hz, rfl⟩
    · cases h
  · cases h
theorem tyOf_agg (h : tyOf P t = some y) : ∃ d, P.underlying t = some d ∧ isAggD d = y.agg := by
  unfold tyOf at h
  split at h
  · rename_i d i hd hi
    refine ⟨d, hd, ?_⟩
    split at h
    · split at h
      · split at h
        · cases h; rfl
        · cases h
      · cases h; rfl
      · cases h; rfl
      · cases h; rfl
      · cases h; rfl
    · cases h
  · cases h
theorem tyOf_elem (h : tyOf P t = some y) {e : TypeId} (he : y.elem = some e) : P.underlying t = some (.slice e) := by
  unfold tyOf at h
  split at h
  · rename_i d i hd hi
    split at h
    · split at h
      · split at h
        · cases h; cases he
        · cases h
      · cases h; cases he; exact hd
      · cases h; cases he
      · cases h; cases he
      · cases h; cases he
    · cases h
  · cases h
theorem tyOf_ik (h : tyOf P t = some y) {k : IntKind} (he : y.ik = some k) : P.underlying t = some (.int k) := by
  unfold tyOf at h
  split at h
  · rename_i d i hd hi
    split at h
    · split at h
      · split at h
        · cases h; cases he
        · cases h
      · cases h; cases he
      · cases h; cases he; exact hd
      · cases h; cases he
      · cases h; cases he
    · cases h
  · cases h
theorem tyOf_bl (h : tyOf P t = some y) (he : y.bl = true) : P.underlying t = some .bool := by
  unfold tyOf at h
  split at h
  · rename_i d i hd hi
    split at h
    · split at h
      · split at h
        · cases h; cases he
        · cases h
      · cases h; cases he
      · cases h; cases he
      · exact hd
      · cases h; cases he
    · cases h
  · cases h
theorem tyFields_get {P : Program} : ∀ {fs : List Field} {r : List (Nat × Nat × Bool)}, tyFields P fs = some r → ∀ {j : Nat} {q}, r[j]? = some q → ∃ f i d, fs[j]? = some f ∧ f.offset = q.1 ∧ P.info? f.type = some i ∧ i.size = q.2.1 ∧ P.underlying f.type = some d ∧ isAggD d = q.2.2
  | [], r, h, j, q, hq => by simp [tyFields] at h; subst h; simp at hq
  | f :: fs, r, h, j, q, hq => by
    unfold tyFields at h
    split at h
    · rename_i i d r' hi hd hr
      cases h
      cases j with
      | zero => simp at hq; subst hq; exact ⟨f, i, d, by simp, rfl, hi, rfl, hd, rfl⟩
      | succ j => simp at hq; obtain ⟨f', i', d', k⟩ := tyFields_get hr hq; exact ⟨f', i', d', by simpa using k⟩
    · cases h
theorem tyOf_field (h : tyOf P t = some y) {j : Nat} {q : Nat × Nat × Bool} (hq : y.fields[j]? = some q) : ∃ fs f i d, P.underlying t = some (.struct fs) ∧ fs[j]? = some f ∧ f.offset = q.1 ∧ P.info? f.type = some i ∧ i.size = q.2.1 ∧ P.underlying f.type = some d ∧ isAggD d = q.2.2 := by
  unfold tyOf at h
  split at h
  · rename_i d i hd hi
    split at h
    · split at h
      · rename_i fs
        split at h
        · rename_i r hr
          cases h
          obtain ⟨f, i', d', h1, h2⟩ := tyFields_get hr hq
          exact ⟨fs, f, i', d', hd, by simpa using h1, h2⟩
        · cases h
      · cases h; simp at hq
      · cases h; simp at hq
      · cases h; simp at hq
      · cases h; simp at hq
    · cases h
  · cases h
end
/-! ### operands -/
def ev (F : Fr) : Operand → Option AV
  | .tmp t => F.get t
  | .const v => match v.oneCell' with
    | true => some (.r (.v v))
    | false => none
  | .func f => some (.fn f [])
  | .global _ => none
structure Fits (E : Env) (w : World) (F : Fr) (a : Act) : Prop where
  get : ∀ (d : Nat) (x : AV), F.get d = some x → ∃ u, a.tmps[d]? = some u ∧ C E w x u
theorem Fits.ev {E : Env} {w : World} {F : Fr} {a : Act} (h : Fits E w F a) : ∀ {o : Operand} {x : AV}, ev F o = some x → C E w x (a.eval o)
  | .tmp t, x, hx => by
    obtain ⟨u, h1, h2⟩ := h.get t x hx
    have : a.eval (.tmp t) = u := by simp [Act.eval, Array.getD_eq_getD_getElem?, h1]
    rw [this]; exact h2
  | .const v, x, hx => by
    unfold Kw.ev at hx
    cases hv : v.oneCell' with
    | true =>
      simp only [hv] at hx
      cases hx
      unfold C CR
      exact ⟨rfl, hv⟩
    | false => simp only [hv] at hx; cases hx
  | .func f, x, hx => by
    unfold Kw.ev at hx
    cases hx
    unfold C
    exact ⟨[], rfl, by unfold CL; rfl⟩
  | .global g, x, hx => by
    unfold Kw.ev at hx
    cases hx
theorem Fits.mono {E E' : Env} {w w' : World} {F : Fr} {a : Act} (h : Fits E w F a) (hE : E.le E') (hw : ∀ b, E.Z b → w'.heap[b]? = w.heap[b]?) : Fits E' w' F a :=
  ⟨fun d x hx => by obtain ⟨u, h1, h2⟩ := h.get d x hx; exact ⟨u, h1, C_mono hE hw x u h2⟩⟩
theorem Fits.put {E : Env} {w : World} {F : Fr} {a : Act} (h : Fits E w F a) {d : Nat} {x : AV} {u : Value} (hx : C E w x u) (hd : Nat.blt d a.tmps.size = true) : Fits E w ((d, x) :: F) (a.put (some d) u) := by
  have hd' : d < a.tmps.size := Nat.le_of_ble_eq_true hd
  refine ⟨fun n y hy => ?_⟩
  unfold Fr.get at hy
  cases hb : Nat.beq d n with
  | true =>
    rw [hb] at hy
    simp at hy
    have : d = n := Nat.eq_of_beq_eq_true hb
    subst this; subst hy
    exact ⟨u, by simp [Act.put, hd'], hx⟩
  | false =>
    rw [hb] at hy
    obtain ⟨v, h1, h2⟩ := h.get n y hy
    have hne : d ≠ n := by rintro rfl; simp [Nat.beq_refl] at hb
    exact ⟨v, by simp [Act.put, Array.getElem?_setIfInBounds_ne hne, h1], h2⟩
theorem put_size (a : Act) (d : Option Nat) (v : Value) : (a.put d v).tmps.size = a.tmps.size ∧ (a.put d v).defers = a.defers := by
  cases d <;> simp [Act.put]
/-! ### operations that only reckon -/
def evs (F : Fr) : List Operand → Option (List AV)
  | [] => some []
  | o :: os => match ev F o, evs F os with
    | some x, some xs => some (x :: xs)
    | _, _ => none
theorem Fits.evs {E : Env} {w : World} {F : Fr} {a : Act} (h : Fits E w F a) : ∀ {os : List Operand} {xs : List AV}, Kw.evs F os = some xs → CL E w xs (os.map a.eval)
  | [], xs, hx => by cases hx; unfold CL; rfl
  | o :: os, xs, hx => by
    unfold Kw.evs at hx
    split at hx
    · rename_i x ys h1 h2
      cases hx
      unfold CL
      exact ⟨_, _, rfl, h.ev h1, h.evs h2⟩
    · cases hx
def i_ (k : IntKind) (n : Int) : AV := .r (.v (.int k n))
def b_ (b : Bool) : AV := .r (.v (.bool b))
@[irreducible] def wr (k : IntKind) (n : Int) : Int := k.wrap n
@[irreducible] def ltB (x y : Int) : Bool := decide (x < y)
@[irreducible] def leB (x y : Int) : Bool := decide (x ≤ y)
@[irreducible] def eqB (x y : Int) : Bool := x == y
@[irreducible] def notB (x : Bool) : Bool := !x
@[irreducible] def beqB (x y : Bool) : Bool := x == y
theorem wr_eq (k : IntKind) (n : Int) : wr k n = k.wrap n := by unfold wr; rfl
theorem ltB_eq (x y : Int) : ltB x y = decide (x < y) := by unfold ltB; rfl
theorem leB_eq (x y : Int) : leB x y = decide (x ≤ y) := by unfold leB; rfl
theorem eqB_eq (x y : Int) : eqB x y = (x == y) := by unfold eqB; rfl
theorem notB_eq (x : Bool) : notB x = !x := by unfold notB; rfl
theorem beqB_eq (x y : Bool) : beqB x y = (x == y) := by unfold beqB; rfl
/-- int's sums stay where they fit. -/
theorem wr_i64 {n : Int} (h : -9223372036854775808 ≤ n) (h' : n ≤ 9223372036854775807) : wr .i64 n = n := by
  rw [wr_eq, IntKind.wrap_i64]
  have := Go.RowKit.wrap64
  omega
@[irreducible] def qt (x y : Int) : Int := x.tdiv y
@[irreducible] def rm (x y : Int) : Int := x.tmod y
theorem qt_eq (x y : Int) : qt x y = x.tdiv y := by unfold qt; rfl
theorem rm_eq (x y : Int) : rm x y = x.tmod y := by unfold rm; rfl
/-- Of a number that is not below nought. -/
theorem rm_pos {x y : Int} (h : 0 ≤ x) : rm x y = x % y := by rw [rm_eq, Int.tmod_eq_emod_of_nonneg h]
theorem qt_pos {x y : Int} (h : 0 ≤ x) : qt x y = x / y := by rw [qt_eq, Int.tdiv_eq_ediv_of_nonneg h]
def nz : Int → Bool
  | .ofNat 0 => false
  | _ => true
theorem nz_ne {x : Int} (h : nz x = true) : x ≠ 0 := by rintro rfl; cases h
def intOp : BinOp → IntKind → Int → Int → Option AV
  | .quo, k, x, y => match nz y with
    | true => some (.r (.v (.int k (wr k (qt x y)))))
    | false => none
  | .rem, k, x, y => match nz y with
    | true => some (.r (.v (.int k (rm x y))))
    | false => none
  | .add, k, x, y => some (.r (.v (.int k (wr k (x + y)))))
  | .sub, k, x, y => some (.r (.v (.int k (wr k (x - y)))))
  | .mul, k, x, y => some (.r (.v (.int k (wr k (x * y)))))
  | .eql, _, x, y => some (.r (.v (.bool (eqB x y))))
  | .neq, _, x, y => some (.r (.v (.bool (notB (eqB x y)))))
  | .lss, _, x, y => some (.r (.v (.bool (ltB x y))))
  | .leq, _, x, y => some (.r (.v (.bool (leB x y))))
  | .gtr, _, x, y => some (.r (.v (.bool (ltB y x))))
  | .geq, _, x, y => some (.r (.v (.bool (leB y x))))
  | .and, k, x, y => some (.r (.v (.int k (Go.bits .and k x y))))
  | .or, k, x, y => some (.r (.v (.int k (Go.bits .or k x y))))
  | _, _, _, _ => none
def kindEq : IntKind → IntKind → Bool
  | .i8, .i8 | .i16, .i16 | .i32, .i32 | .i64, .i64 | .u8, .u8 | .u16, .u16 | .u32, .u32 | .u64, .u64 => true
  | _, _ => false
theorem kindEq_eq {a b : IntKind} (h : kindEq a b = true) : a = b := by cases a <;> cases b <;> first | rfl | (simp [kindEq] at h)
end Go.Proofs.Ytnenbopcoghmaaa.Kw
namespace Go.Proofs.Ytnenbopcoghmaaa.Kw
open Go
def setFrom : List AV → Nat → List AV → List AV
  | cells, _, [] => cells
  | cells, off, c :: cs => setFrom (cells.set off c) (off + 1) cs
def cellA : AV → Bool
  | .agg _ => false
  | .tup _ => false
  | .junk => false
  | _ => true
def aggOf : AV → Option (List AV)
  | .agg cs => some cs
  | _ => none
def fillA (fs : List (Nat × Nat × Bool)) : List AV → List (Nat × AV) → Option (List AV)
  | cells, [] => some cells
  | cells, (i, x) :: r => match fs[i]? with
    | some (off, sz, _) => match aggOf x with
      | some cs => match Nat.beq cs.length sz && Nat.ble (off + sz) cells.length with
        | true => fillA fs (setFrom cells off cs) r
        | false => none
      | none => match cellA x && Nat.beq sz 1 && Nat.ble (off + 1) cells.length with
        | true => fillA fs (cells.set off x) r
        | false => none
    | none => none
def evp (F : Fr) : List (Nat × Operand) → Option (List (Nat × AV))
  | [] => some []
  | (i, o) :: os => match ev F o, evp F os with
    | some x, some xs => some ((i, x) :: xs)
    | _, _ => none
def raw : List Value → List AV
  | [] => []
  | v :: vs => .r (.v v) :: raw vs
def allOne : List Value → Bool
  | [] => true
  | v :: vs => v.oneCell' && allOne vs
def lenA (S : Sp) : AV → Option Nat
  | .r (.rs _ L) => some L.length
  | .r (.v (.slice none n _)) => some n
  | .sl k => match S[k]? with
    | some (some e) => some e.L.length
    | _ => none
  | _ => none
@[irreducible] def mm (mx : Bool) (x y : Int) : Int := match mx with
  | true => if x < y then y else x
  | false => if y < x then y else x

def pureVal (T : Tab) (S : Sp) (F : Fr) : Op → Option AV
  | .move x => ev F x
  | .assign x => ev F x
  | .pick c a b => match ev F c with
    | some (.r (.v (.bool true))) => ev F a
    | some (.r (.v (.bool false))) => ev F b
    | _ => none
  | .unOp op _ x => match op, ev F x with
    | .not, some (.r (.v (.bool b))) => some (.r (.v (.bool (notB b))))
    | .neg, some (.r (.v (.int k n))) => some (.r (.v (.int k (wr k (0 - n)))))
    | _, _ => none
  | .binOp op t x y _ => match ev F x with
    | some (.r (.v (.int k p))) => match ev F y with
      | some (.r (.v (.int k' q))) => match kindEq k k' with
        | true => intOp op k p q
        | false => none
      | _ => none
    | some (.r (.v (.bool p))) => match ev F y with
      | some (.r (.v (.bool q))) => match T.get t with
        | some yt => match yt.bl, op with
          | true, .eql => some (.r (.v (.bool (beqB p q))))
          | true, .neq => some (.r (.v (.bool (notB (beqB p q)))))
          | _, _ => none
        | none => none
      | _ => none
    | _ => none
  | .convert s d x => match T.get s, T.get d, ev F x with
    | some _, some y, some (.r (.v (.int _ n))) => match y.ik with
      | some k => some (.r (.v (.int k (wr k n))))
      | none => none
    | _, _, _ => none
  | .field t x j => match T.get t, ev F x with
    | some y, some (.agg cs) => match y.fields[j]? with
      | some (off, sz, true) => some (.agg ((cs.drop off).take sz))
      | some (off, _, false) => cs[off]?
      | none => none
    | _, _ => none
  | .fieldAddr t x j => match T.get t, ev F x with
    | some y, some p => match y.fields[j]? with
      | some (off, sz, _) => match Nat.beq sz 0 with
        | true => none
        | false => match p with
          | .box i o => some (.box i (o + off))
          | .r (.ro cs) => some (.r (.ro (cs.drop off)))
          | .el k z i o => some (.el k z i (o + off))
          | _ => none
      | none => none
    | _, _ => none
  | .nilCheck x => match ev F x with
    | some (.box i o) => some (.box i o)
    | some (.r (.ro cs)) => some (.r (.ro cs))
    | some (.el k z i o) => some (.el k z i o)
    | some (.fn f cs) => some (.fn f cs)
    | _ => none
  | .build t ps => match T.get t, evp F ps.toList with
    | some y, some xs => match y.agg && !y.fields.isEmpty && allOne y.zero with
      | true => match fillA y.fields (raw y.zero) xs with
        | some cs => some (.agg cs)
        | none => none
      | false => none
    | _, _ => none
  | .extract x j => match ev F x with
    | some (.tup xs) => xs[j]?
    | _ => none
  | .makeFunc fn first captured => match fn, first.toList with
    | .func f, [] => match evs F captured.toList with
      | some cs => some (.fn f cs)
      | none => none
    | _, _ => none
  | .call c => match c.callee, c.args.toList, c.argTypes.toList with
    | .builtin .len, [x], [t] => match T.get t, ev F x with
      | some y, some v => match y.elem with
        | some _ => match lenA S v with
          | some n => some (.r (.v (.int .i64 n)))
          | none => none
        | none => none
      | _, _ => none
    | .builtin .max, [x, y], _ => match ev F x, ev F y with
      | some (.r (.v (.int k p))), some (.r (.v (.int k' q))) => match kindEq k k' with
        | true => some (.r (.v (.int k (mm true p q))))
        | false => none
      | _, _ => none
    | .builtin .min, [x, y], _ => match ev F x, ev F y with
      | some (.r (.v (.int k p))), some (.r (.v (.int k' q))) => match kindEq k k' with
        | true => some (.r (.v (.int k (mm false p q))))
        | false => none
      | _, _ => none
    | _, _, _ => none
  | _ => none
end Go.Proofs.Ytnenbopcoghmaaa.Kw
namespace Go.Proofs.Ytnenbopcoghmaaa.Kw
open Go
section
variable {P : Program} {T : Tab} {E : Env} {w : World} {F : Fr} {a : Act} {S : Sp} {r : AV}
theorem C_v {x : Value} {u : Value} (h : C E w (.r (.v x)) u) : u = x := by unfold C CR at h; exact h.1
theorem C_v_mk {x : Value} (h : x.oneCell' = true) : C E w (.r (.v x)) x := by unfold C CR; exact ⟨rfl, h⟩
theorem mm_max (p q : Int) : (if q > p then q else p) = mm true p q := by unfold mm; by_cases h : p < q <;> simp [h]
theorem mm_min (p q : Int) : (if q < p then q else p) = mm false p q := by unfold mm; rfl
/-- The answer u to o in every world. -/
def Ans (P : Program) (a : Act) (o : Oper) (u : Value) : Prop := ∀ w', (execOp a.eval o).run P w' = .ok (.value u) w'
theorem ans_v {o : Oper} {u : Value} {s : Sem Value} (he : execOp a.eval o = (do pure (.value (← s)))) (hs : ∀ w', s.run P w' = .ok u w') : Ans P a o u := by
  intro w'
  rw [he]
  simp [hs]
theorem run_underlying_ {t : TypeId} {d : TypeDesc} (h : P.underlying t = some d) (w' : World) : (underlying t).run P w' = .ok d w' := by
  simp [underlying, h]
theorem run_typeInfo_ {t : TypeId} {i : TypeInfo} (h : P.info? t = some i) (w' : World) : (typeInfo t).run P w' = .ok i w' := by
  simp [typeInfo, h]
theorem run_sizeOf_ {t : TypeId} {i : TypeInfo} (h : P.info? t = some i) (w' : World) : (Go.sizeOf t).run P w' = .ok i.size w' := by
  simp [Go.sizeOf, run_typeInfo_ h]
theorem run_isAgg_ {t : TypeId} {d : TypeDesc} (h : P.underlying t = some d) (w' : World) : (isAgg t).run P w' = .ok (isAggD d) w' := by
  unfold isAgg
  simp only [Sem.run_bind, run_underlying_ h, Result.andThen_ok]
  cases d <;> rfl
theorem run_zero_ {t : TypeId} {i : TypeInfo} {z : Value} (h : P.info? t = some i) (hz : i.zero = some z) (w' : World) : (zeroValue t).run P w' = .ok z w' := by
  unfold zeroValue
  simp [run_typeInfo_ h, hz]
theorem intOp_ok {op : BinOp} {k : IntKind} {p q : Int} (h : intOp op k p q = some r) : ∃ u, C E w r u ∧ ∀ w', (binOp op 0 (.int k p) (.int k q)).run P w' = .ok u w' := by
  cases op
  case quo =>
    simp only [intOp] at h
    split at h
    · rename_i hz
      cases h
      have := nz_ne hz
      exact ⟨_, C_v_mk rfl, fun w' => by simp [binOp_quo, Op.intDiv, this, wr_eq, qt_eq]⟩
    · cases h
  case rem =>
    simp only [intOp] at h
    split at h
    · rename_i hz
      cases h
      have := nz_ne hz
      exact ⟨_, C_v_mk rfl, fun w' => by simp [binOp_rem, Op.intDiv, this, rm_eq]⟩
    · cases h
  all_goals simp only [intOp, Option.some.injEq] at h <;> first | (cases h; done) | (subst h; refine ⟨_, C_v_mk rfl, fun w' => ?_⟩; simp [binOp, Op.intArith, Op.intCmp, intBits_and, intBits_or, wr_eq, ltB_eq, leB_eq, eqB_eq, notB_eq, bne])
theorem intOp_run {op : BinOp} {t t' : TypeId} {k : IntKind} {p q : Int} (w' : World) : (binOp op t (.int k p) (.int k q)).run P w' = (binOp op t' (.int k p) (.int k q)).run P w' := by
  cases op <;> rfl
theorem eqGuard_int {op : BinOp} {t : TypeId} {x y : Operand} {k k' : IntKind} {p q : Int} (w' : World) : (eqGuard op t x y (.int k p) (.int k' q)).run P w' = .ok () w' := by
  unfold eqGuard
  split <;> simp
theorem setFrom_ok : ∀ {cs : List AV} {cells : List AV} {off : Nat} {us vs : List Value}, CL E w cells us → CL E w cs vs → (∀ x ∈ us, x.oneCell' = true) → (∀ x ∈ vs, x.oneCell' = true) → ∃ ws, CL E w (setFrom cells off cs) ws ∧ (∀ x ∈ ws, x.oneCell' = true) ∧ ((vs.zipIdx 0).foldl (fun acc (c, j) => acc.setIfInBounds (off + j) c) (List.toArray us)) = List.toArray ws
  | [], cells, off, us, vs, h, h', h1, _ => by
    unfold CL at h'; subst h'
    exact ⟨us, h, h1, by simp⟩
  | c :: cs, cells, off, us, vs, h, h', h1, h2 => by
    unfold CL at h'
    obtain ⟨u, r, rfl, h3, h4⟩ := h'
    have hset := CL_set h off h3
    have h1' : ∀ x ∈ us.set off u, x.oneCell' = true := by
      intro x hx
      rcases List.mem_or_eq_of_mem_set hx with hx | rfl
      · exact h1 x hx
      · exact h2 x (by simp)
    obtain ⟨ws, k1, k2, k3⟩ := setFrom_ok (off := off + 1) hset h4 h1' (fun x hx => h2 x (by simp [hx]))
    refine ⟨ws, k1, k2, ?_⟩
    rw [← k3]
    simp only [List.zipIdx_cons, List.foldl_cons, Nat.add_zero, List.setIfInBounds_toArray, Nat.zero_add]
    -- indices shifted by one
    have sh : ∀ (l : List Value) (n : Nat) (A : Array Value), (l.zipIdx (n + 1)).foldl (fun acc (c, j) => acc.setIfInBounds (off + j) c) A = (l.zipIdx n).foldl (fun acc (c, j) => acc.setIfInBounds (off + 1 + j) c) A := by
      intro l
      induction l with
      | nil => intro n A; rfl
      | cons x l ih =>
        intro n A
        simp only [List.zipIdx_cons, List.foldl_cons]
        rw [ih (n + 1)]
        congr 2
        omega
    exact sh r 0 _
end
end Go.Proofs.Ytnenbopcoghmaaa.Kw
namespace Go.Proofs.Ytnenbopcoghmaaa.Kw
open Go
section
variable {P : Program} {T : Tab} {E : Env} {w : World} {F : Fr} {a : Act} {S : Sp} {r : AV} {w0 : World} {X : Org} {H : Hp}
theorem raw_CL : ∀ {vs : List Value}, allOne vs = true → CL E w (raw vs) vs
  | [], _ => by unfold raw CL; rfl
  | v :: vs, h => by
    unfold allOne at h
    rw [Bool.and_eq_true] at h
    unfold raw CL
    exact ⟨v, vs, rfl, C_v_mk h.1, raw_CL h.2⟩
theorem allOne_mem : ∀ {vs : List Value}, allOne vs = true → ∀ x ∈ vs, x.oneCell' = true
  | [], _, x, hx => by simp at hx
  | v :: vs, h, x, hx => by
    unfold allOne at h
    rw [Bool.and_eq_true] at h
    rcases List.mem_cons.1 hx with rfl | hx
    · exact h.1
    · exact allOne_mem h.2 x hx
theorem cellA_one {x : AV} {u : Value} (hx : cellA x = true) (h : C E w x u) : u.oneCell' = true := by
  cases x with
  | r x => unfold C at h; exact CR_one h
  | box i o => unfold C at h; obtain ⟨b, _, rfl⟩ := h; rfl
  | sl k => unfold C at h; exact h.2
  | el k s i o => unfold C at h; obtain ⟨b, n, c, _, rfl⟩ := h; rfl
  | agg cs => cases hx
  | tup cs => cases hx
  | fn f cs => unfold C at h; obtain ⟨us, rfl, _⟩ := h; rfl
  | junk => cases hx
theorem one_cells {u : Value} (h : u.oneCell' = true) : u.cells = #[u] := by cases u <;> first | rfl | cases h
def CP (E : Env) (w : World) : List (Nat × AV) → List (Nat × Value) → Prop
  | [], ps => ps = []
  | x :: xs, ps => ∃ u r, ps = (x.1, u) :: r ∧ C E w x.2 u ∧ CP E w xs r
theorem aggOf_eq {x : AV} {cs : List AV} (h : aggOf x = some cs) : x = .agg cs := by cases x <;> first | (cases h; done) | (simp [aggOf] at h; rw [h])
theorem fill_cons {place : Nat → Option (Nat × Nat)} {cells : Array Value} {i : Nat} {v : Value} {rest : List (Nat × Value)} {off size : Nat} (hp : place i = some (off, size)) (h1 : v.cells.size = size) (h2 : off + size ≤ cells.size) :
    Instr.fill place cells ((i, v) :: rest) = Instr.fill place (v.cells.zipIdx.foldl (fun cs (c, j) => cs.setIfInBounds (off + j) c) cells) rest := by
  conv => lhs; unfold Instr.fill
  simp [hp, h1]
  omega
theorem fillA_ok {fs : List (Nat × Nat × Bool)} : ∀ {xs : List (Nat × AV)} {cells cs : List AV} {us : List Value} {ps : List (Nat × Value)}, fillA fs cells xs = some cs → CL E w cells us → (∀ x ∈ us, x.oneCell' = true) →
    CP E w xs ps → ∃ ws, CL E w cs ws ∧ (∀ x ∈ ws, x.oneCell' = true) ∧ Instr.fill (fun i => (fs[i]?).map fun q => (q.1, q.2.1)) (List.toArray us) ps = some (List.toArray ws)
  | [], cells, cs, us, ps, h, hc, h1, hp => by
    unfold CP at hp
    subst hp
    unfold fillA at h
    cases h
    exact ⟨us, hc, h1, rfl⟩
  | (i, x) :: xs, cells, cs, us, ps, h, hc, h1, hp => by
    unfold CP at hp
    obtain ⟨u, r, rfl, hx, hp⟩ := hp
    unfold fillA at h
    cases hf : fs[i]? with
    | none => simp [hf] at h
    | some q =>
      obtain ⟨off, sz, ag⟩ := q
      simp only [hf] at h
      have hul := CL_length hc
      cases ha : aggOf x with
      | some ds =>
        have := aggOf_eq ha
        subst this
        simp only [ha] at h
        cases hb : (Nat.beq ds.length sz && Nat.ble (off + sz) cells.length) with
        | false => rw [hb] at h; cases h
        | true =>
          rw [hb] at h
          simp only at h
          rw [Bool.and_eq_true] at hb
          have e1 : ds.length = sz := Nat.eq_of_beq_eq_true hb.1
          have e2 : off + sz ≤ cells.length := Nat.le_of_ble_eq_true hb.2
          unfold C at hx
          obtain ⟨vs, rfl, hd, hv⟩ := hx
          have hvl := CL_length hd
          obtain ⟨ws, k1, k2, k3⟩ := setFrom_ok (off := off) hc hd h1 hv
          obtain ⟨zs, m1, m2, m3⟩ := fillA_ok h k1 k2 hp
          refine ⟨zs, m1, m2, ?_⟩
          rw [fill_cons (off := off) (size := sz) (by simp [hf]) (by simp [Value.cells]; omega) (by simp; omega)]
          rw [← m3, ← k3]
          congr 1
          simp [Value.cells]
      | none =>
        simp only [ha] at h
        cases hb : (cellA x && Nat.beq sz 1 && Nat.ble (off + 1) cells.length) with
        | false => rw [hb] at h; cases h
        | true =>
          rw [hb] at h
          simp only at h
          rw [Bool.and_eq_true, Bool.and_eq_true] at hb
          have e1 : sz = 1 := Nat.eq_of_beq_eq_true hb.1.2
          have e2 : off + 1 ≤ cells.length := Nat.le_of_ble_eq_true hb.2
          have ho := cellA_one hb.1.1 hx
          obtain ⟨zs, m1, m2, m3⟩ := fillA_ok h (CL_set hc off hx) (by
            intro y hy
            rcases List.mem_or_eq_of_mem_set hy with hy | rfl
            · exact h1 y hy
            · exact ho) hp
          refine ⟨zs, m1, m2, ?_⟩
          rw [fill_cons (off := off) (size := sz) (by simp [hf]) (by rw [one_cells ho]; simp [e1]) (by simp; omega)]
          rw [← m3]
          congr 1
          simp [one_cells ho]
end
end Go.Proofs.Ytnenbopcoghmaaa.Kw
namespace Go.Proofs.Ytnenbopcoghmaaa.Kw
open Go
section
variable {P : Program} {T : Tab} {E : Env} {w : World} {F : Fr} {a : Act} {S : Sp} {r : AV} {w0 : World} {X : Org} {H : Hp}
theorem Fits.evp (h : Fits E w F a) : ∀ {os : List (Nat × Operand)} {xs : List (Nat × AV)}, Kw.evp F os = some xs → CP E w xs (os.map fun p => (p.1, a.eval p.2))
  | [], xs, hx => by cases hx; unfold CP; rfl
  | (i, o) :: os, xs, hx => by
    unfold Kw.evp at hx
    cases h1 : Kw.ev F o with
    | none => simp [h1] at hx
    | some x =>
      cases h2 : Kw.evp F os with
      | none => simp [h1, h2] at hx
      | some ys =>
        simp only [h1, h2, Option.some.injEq] at hx
        subst hx
        unfold CP
        exact ⟨_, _, rfl, h.ev h1, h.evp h2⟩
theorem run_fields {fs : List Field} : ∀ {q : List (Nat × Nat × Bool)}, tyFields P fs = some q → ∀ w', (fs.mapM (fun (f : Field) => (do pure (f.offset, ← Go.sizeOf f.type) : Sem (Nat × Nat)))).run P w' = .ok (q.map fun x => (x.1, x.2.1)) w' := by
  induction fs with
  | nil => intro q h w'; simp [tyFields] at h; subst h; simp
  | cons f fs ih =>
    intro q h w'
    unfold tyFields at h
    cases hi : P.info? f.type with
    | none => simp [hi] at h
    | some i =>
      cases hd : P.underlying f.type with
      | none => simp [hi, hd] at h
      | some d =>
        cases hq : tyFields P fs with
        | none => simp [hi, hd, hq] at h
        | some q' =>
          simp only [hi, hd, hq, Option.some.injEq] at h
          subst h
          simp only [List.mapM_cons, Sem.run_bind, run_sizeOf_ hi, Result.andThen_ok, Sem.run_pure, ih hq w', List.map_cons]
theorem run_fields_arr {fs : Array Field} {q : List (Nat × Nat × Bool)} (h : tyFields P fs.toList = some q) (w' : World) : (fs.mapM (fun (f : Field) => (do pure (f.offset, ← Go.sizeOf f.type) : Sem (Nat × Nat)))).run P w' = .ok (List.toArray (q.map fun x => (x.1, x.2.1))) w' := by
  have h1 : (fs.mapM (fun (f : Field) => (do pure (f.offset, ← Go.sizeOf f.type) : Sem (Nat × Nat)))) = List.toArray <$> (fs.toList.mapM (fun (f : Field) => (do pure (f.offset, ← Go.sizeOf f.type) : Sem (Nat × Nat)))) := by
    rw [Array.mapM_eq_mapM_toList]
  rw [h1, Sem.run_map, run_fields h w']
  rfl
theorem tyOf_struct {t : TypeId} {y : Ty} (h : tyOf P t = some y) (ha : y.agg = true) (hf : y.fields.isEmpty = false) : ∃ fs, P.underlying t = some (.struct fs) ∧ tyFields P fs.toList = some y.fields := by
  unfold tyOf at h
  split at h
  · rename_i d i hd hi
    split at h
    · split at h
      · rename_i fs
        split at h
        · rename_i q hq
          cases h; exact ⟨fs, hd, hq⟩
        · cases h
      · cases h; cases ha
      · cases h; cases ha
      · cases h; cases ha
      · cases h; simp at hf
    · cases h
  · cases h
theorem build_ok (hT : TabOk P T) (hF : Fits E w F a) {t : TypeId} {ps : Array (Nat × Operand)} {y : Ty} {xs : List (Nat × AV)} {cs : List AV} (h1 : T.get t = some y) (h2 : Kw.evp F ps.toList = some xs)
    (h3 : (y.agg && !y.fields.isEmpty && allOne y.zero) = true) (h4 : fillA y.fields (raw y.zero) xs = some cs) {o : Oper} (ho : o.op = .build t ps) : ∃ u, C E w (.agg cs) u ∧ Ans P a o u := by
  rw [Bool.and_eq_true, Bool.and_eq_true] at h3
  have hy := hT t y h1
  obtain ⟨fs, hu, hfs⟩ := tyOf_struct hy h3.1.1 (by simpa using h3.1.2)
  obtain ⟨i, z, hi, hsz, _, hz, hzc⟩ := tyOf_zero hy
  obtain ⟨ws, k1, k2, k3⟩ := fillA_ok (us := y.zero) (ps := ps.toList.map fun p => (p.1, a.eval p.2)) h4 (raw_CL h3.2) (allOne_mem h3.2) (hF.evp h2)
  refine ⟨.agg (List.toArray ws), by unfold C; exact ⟨ws, rfl, k1, k2⟩, ?_⟩
  refine ans_v (s := Instr.build t (ps.map fun p => (p.1, a.eval p.2))) (by unfold execOp; simp only [ho]) (fun w' => ?_)
  unfold Instr.build
  simp only [Sem.run_bind, run_zero_ hi hz, Result.andThen_ok, run_underlying_ hu, run_fields_arr hfs]
  have e1 : (fun (x : Nat) => (List.toArray (y.fields.map fun (x : Nat × Nat × Bool) => (x.1, x.2.1)))[x]?) = fun (i : Nat) => (y.fields[i]?).map fun (q : Nat × Nat × Bool) => (q.1, q.2.1) := by
    funext j
    simp
  have e2 : (ps.map fun p => (p.1, a.eval p.2)).toList = ps.toList.map fun p => (p.1, a.eval p.2) := by simp
  have e3 : z.cells = List.toArray y.zero := by rw [← hzc]
  simp only [e1, e2, e3, k3]
  rfl
end
end Go.Proofs.Ytnenbopcoghmaaa.Kw
namespace Go.Proofs.Ytnenbopcoghmaaa.Kw
open Go
section
variable {P : Program} {T : Tab} {E : Env} {w : World} {F : Fr} {a : Act} {S : Sp} {r : AV} {w0 : World} {X : Org} {H : Hp}
theorem lenA_ok (hS : Sat w0 X E H S w) {x : AV} {n : Nat} {u : Value} (h : lenA S x = some n) (hx : C E w x u) : ∃ A c, u = .slice A n c := by
  unfold lenA at h
  split at h
  · cases h
    unfold C CR at hx
    obtain ⟨A, c, h1, _⟩ := hx
    exact ⟨A, c, h1⟩
  · cases h
    have := C_v hx
    subst this
    exact ⟨_, _, rfl⟩
  · rename_i k
    split at h
    · rename_i e he
      cases h
      unfold C at hx
      obtain ⟨v, cs, h1, h2, _⟩ := hS.sl k e he
      have h3 := hx.1
      rw [h1] at h3
      cases h3
      rcases h2.2 with ⟨h4, h5⟩ | ⟨g, cap, cur, h4, _⟩
      · exact ⟨none, 0, by rw [h4, h5]⟩
      · exact ⟨_, _, h4⟩
    · cases h
  · cases h
theorem part_ok {t : TypeId} {d : TypeDesc} {i : TypeInfo} {us : Array Value} {off : Nat} (hd : P.underlying t = some d) (hi : P.info? t = some i) {u : Value}
    (h : if isAggD d = true then u = .agg (us.extract off (off + i.size)) else us[off]? = some u) (w' : World) : (part t us off).run P w' = .ok u w' := by
  unfold part
  simp only [Sem.run_bind, run_isAgg_ hd, Result.andThen_ok]
  cases ha : isAggD d with
  | true =>
    rw [ha] at h
    simp at h
    simp [run_sizeOf_ hi, h]
  | false =>
    rw [ha] at h
    simp at h
    simp [h]
theorem pv_field (hT : TabOk P T) (hF : Fits E w F a) {t : TypeId} {x : Operand} {j : Nat} (h : pureVal T S F (.field t x j) = some r) {o : Oper} (ho : o.op = .field t x j) : ∃ u, C E w r u ∧ Ans P a o u := by
  simp only [pureVal] at h
  cases h1 : T.get t with
  | none => simp [h1] at h
  | some y =>
    cases h2 : Kw.ev F x with
    | none => simp [h1, h2] at h
    | some v =>
      have hv := hF.ev h2
      cases v with
      | agg cs =>
        simp only [h1, h2] at h
        unfold C at hv
        obtain ⟨us, hu, hcl, hone⟩ := hv
        have hl := CL_length hcl
        cases h3 : y.fields[j]? with
        | none => simp [h3] at h
        | some q =>
          obtain ⟨fs, f, i, d, k1, k2, k3, k4, k5, k6, k7⟩ := tyOf_field (hT t y h1) h3
          obtain ⟨off, sz, ag⟩ := q
          replace k3 : f.offset = off := k3
          replace k5 : i.size = sz := k5
          replace k7 : isAggD d = ag := k7
          have run : ∀ u, (if isAggD d = true then u = .agg ((List.toArray us).extract off (off + i.size)) else (List.toArray us)[off]? = some u) → Ans P a o u := by
            intro u hu'
            refine ans_v (s := Instr.field t (a.eval x) j) (by unfold execOp; simp only [ho]) (fun w' => ?_)
            unfold Instr.field
            simp only [Sem.run_bind, run_underlying_ k1, Result.andThen_ok, k2, hu, asAgg, Sem.run_pure, k3]
            exact part_ok k6 k4 hu' w'
          cases ag with
          | true =>
            simp only [h3, Option.some.injEq] at h
            subst h
            refine ⟨.agg (List.toArray ((us.drop off).take sz)), by unfold C; exact ⟨_, rfl, CL_take (CL_drop hcl off) sz, fun z hz => hone z (List.mem_of_mem_drop (List.mem_of_mem_take hz))⟩, run _ ?_⟩
            rw [if_pos k7, k5]
            simp [List.extract_eq_take_drop]
          | false =>
            simp only [h3] at h
            obtain ⟨u, m1, m2⟩ := CL_get hcl h
            refine ⟨u, m2, run _ ?_⟩
            rw [if_neg (by rw [k7]; simp)]
            simpa using m1
      | _ => simp [h1, h2] at h
theorem CAt_drop {Z : Nat → Prop} : ∀ (n : Nat) {cs : List RV} {b o : Nat}, CAt Z w cs b o → CAt Z w (cs.drop n) b (o + n)
  | 0, cs, b, o, h => by simpa using h
  | n + 1, [], b, o, h => by simp; unfold CAt; trivial
  | n + 1, c :: cs, b, o, h => by
    unfold CAt at h
    have := CAt_drop n h.2
    rw [show o + (n + 1) = o + 1 + n from by omega]
    simpa using this
theorem pv_fieldAddr (hT : TabOk P T) (hF : Fits E w F a) {t : TypeId} {x : Operand} {j : Nat} (h : pureVal T S F (.fieldAddr t x j) = some r) {o : Oper} (ho : o.op = .fieldAddr t x j) : ∃ u, C E w r u ∧ Ans P a o u := by
  simp only [pureVal] at h
  cases h1 : T.get t with
  | none => simp [h1] at h
  | some y =>
    cases h2 : Kw.ev F x with
    | none => simp [h1, h2] at h
    | some v =>
      have hv := hF.ev h2
      simp only [h1, h2] at h
      cases h3 : y.fields[j]? with
      | none => simp [h3] at h
      | some q =>
        obtain ⟨fs, f, i, d, k1, k2, k3, k4, k5, k6, k7⟩ := tyOf_field (hT t y h1) h3
        obtain ⟨off, sz, ag⟩ := q
        replace k3 : f.offset = off := k3
        replace k5 : i.size = sz := k5
        simp only [h3] at h
        cases h4 : Nat.beq sz 0 with
        | true => simp [h4] at h
        | false =>
          simp only [h4] at h
          have hsz : i.size ≠ 0 := by rw [k5]; rintro rfl; simp [Nat.beq] at h4
          have run : ∀ b o', a.eval x = .pointer (some ⟨b, o', none⟩) → Ans P a o (.pointer (some ⟨b, o' + off, none⟩)) := by
            intro b o' hb
            refine ans_v (s := Instr.fieldAt t (a.eval x) j) (by unfold execOp; simp only [ho]) (fun w' => ?_)
            unfold Instr.fieldAt fieldPlace
            simp only [Sem.run_bind, run_underlying_ k1, Result.andThen_ok, k2, hb, Instr.sureAddr, Sem.run_pure, run_sizeOf_ k4, Sem.run_ite, if_neg hsz, k3]
            congr 3
            unfold Addr.add
            split
            · rename_i h0; simp_all
            · rfl
          cases v with
          | box i' o' =>
            simp only [Option.some.injEq] at h
            subst h
            unfold C at hv
            obtain ⟨b, hb, hu⟩ := hv
            exact ⟨_, by unfold C; exact ⟨b, hb, rfl⟩, run b o' hu⟩
          | el k z i' o' =>
            simp only [Option.some.injEq] at h
            subst h
            unfold C at hv
            obtain ⟨b, n, c, hb, hu⟩ := hv
            exact ⟨_, by unfold C; exact ⟨b, n, c, hb, rfl⟩, by have := run b _ hu; rw [show i' * z + (o' + off) = i' * z + o' + off from by omega]; exact this⟩
          | r rv =>
            cases rv with
            | ro cs =>
              simp only [Option.some.injEq] at h
              subst h
              unfold C CR at hv
              obtain ⟨b, o', hu, hz, hc⟩ := hv
              refine ⟨_, ?_, run b o' hu⟩
              unfold C CR
              exact ⟨b, o' + off, rfl, hz, CAt_drop off hc⟩
            | _ => simp at h
          | _ => simp at h
theorem ans_move {o : Oper} {x : Operand} (ho : o.op = .move x ∨ o.op = .assign x) : Ans P a o (a.eval x) := by
  intro w'
  unfold execOp
  rcases ho with ho | ho <;> simp only [ho] <;> rfl
theorem pv_pick (hF : Fits E w F a) {c x y : Operand} (h : pureVal T S F (.pick c x y) = some r) {o : Oper} (ho : o.op = .pick c x y) : ∃ u, C E w r u ∧ Ans P a o u := by
  simp only [pureVal] at h
  split at h
  · rename_i hc
    have := C_v (hF.ev hc)
    exact ⟨_, hF.ev h, fun w' => by unfold execOp; simp only [ho]; simp [this, asBool]⟩
  · rename_i hc
    have := C_v (hF.ev hc)
    exact ⟨_, hF.ev h, fun w' => by unfold execOp; simp only [ho]; simp [this, asBool]⟩
  · cases h
theorem pv_unOp (hF : Fits E w F a) {op : UnOp} {t : TypeId} {x : Operand} (h : pureVal T S F (.unOp op t x) = some r) {o : Oper} (ho : o.op = .unOp op t x) : ∃ u, C E w r u ∧ Ans P a o u := by
  simp only [pureVal] at h
  split at h
  · rename_i hc
    cases h
    have := C_v (hF.ev hc)
    exact ⟨_, C_v_mk rfl, ans_v (s := Op.unary .not (a.eval x)) (by unfold execOp; simp only [ho]) (fun w' => by rw [this, notB_eq]; rfl)⟩
  · rename_i k n hc
    cases h
    have := C_v (hF.ev hc)
    exact ⟨_, C_v_mk rfl, ans_v (s := Op.unary .neg (a.eval x)) (by unfold execOp; simp only [ho]) (fun w' => by rw [this, wr_eq]; rfl)⟩
  · cases h
theorem pv_binOp (hT : TabOk P T) (hF : Fits E w F a) {op : BinOp} {t t' : TypeId} {x y : Operand} (h : pureVal T S F (.binOp op t x y t') = some r) {o : Oper} (ho : o.op = .binOp op t x y t') : ∃ u, C E w r u ∧ Ans P a o u := by
  simp only [pureVal] at h
  split at h
  · rename_i k p hx
    split at h
    · rename_i k' q hy
      split at h
      · rename_i hk
        have := kindEq_eq hk
        subst this
        have e1 := C_v (hF.ev hx)
        have e2 := C_v (hF.ev hy)
        obtain ⟨u, h1, h2⟩ := intOp_ok (E := E) (w := w) (P := P) h
        refine ⟨u, h1, ans_v (s := do eqGuard op t x y (a.eval x) (a.eval y); binOp op t (a.eval x) (a.eval y)) (by unfold execOp; simp only [ho]) (fun w' => ?_)⟩
        rw [e1, e2, Sem.run_bind, eqGuard_int, Result.andThen_ok, intOp_run (t' := 0)]
        exact h2 w'
      · cases h
    · cases h
  · rename_i p hx
    split at h
    · rename_i q hy
      have e1 := C_v (hF.ev hx)
      have e2 := C_v (hF.ev hy)
      have ge : ∀ w', (eqGuard op t x y (.bool p) (.bool q)).run P w' = .ok () w' := fun w' => by unfold eqGuard; split <;> simp
      split at h
      · rename_i yt hyt
        split at h
        · rename_i hbl
          cases h
          refine ⟨_, C_v_mk rfl, ans_v (s := do eqGuard .eql t x y (a.eval x) (a.eval y); binOp .eql t (a.eval x) (a.eval y)) (by unfold execOp; simp only [ho]) (fun w' => ?_)⟩
          rw [e1, e2, Sem.run_bind, ge, Result.andThen_ok, run_eql_bool _ _ _ _ (tyOf_bl (hT _ _ hyt) hbl), beqB_eq]
        · rename_i hbl
          cases h
          refine ⟨_, C_v_mk rfl, ans_v (s := do eqGuard .neq t x y (a.eval x) (a.eval y); binOp .neq t (a.eval x) (a.eval y)) (by unfold execOp; simp only [ho]) (fun w' => ?_)⟩
          rw [e1, e2, Sem.run_bind, ge, Result.andThen_ok]
          unfold binOp
          simp [run_equal_bool _ _ _ _ (tyOf_bl (hT _ _ hyt) hbl), beqB_eq, notB_eq]
        · cases h
      · cases h
    · cases h
  · cases h
theorem pv_convert (hT : TabOk P T) (hF : Fits E w F a) {s d : TypeId} {x : Operand} (h : pureVal T S F (.convert s d x) = some r) {o : Oper} (ho : o.op = .convert s d x) : ∃ u, C E w r u ∧ Ans P a o u := by
  simp only [pureVal] at h
  split at h
  · rename_i y1 y k n h1 h2 h3
    split at h
    · rename_i k' hk
      cases h
      have e1 := C_v (hF.ev h3)
      obtain ⟨d1, hd1, _⟩ := tyOf_agg (hT _ _ h1)
      have hd2 := tyOf_ik (hT _ _ h2) hk
      refine ⟨_, C_v_mk rfl, ans_v (s := convert s d (a.eval x)) (by unfold execOp; simp only [ho]) (fun w' => ?_)⟩
      rw [e1]
      unfold convert
      simp only [Sem.run_bind, run_underlying_ hd1, run_underlying_ hd2, Result.andThen_ok, wr_eq]
      rfl
    · cases h
  · cases h
theorem pv_nilCheck (hF : Fits E w F a) {x : Operand} (h : pureVal T S F (.nilCheck x) = some r) {o : Oper} (ho : o.op = .nilCheck x) : ∃ u, C E w r u ∧ Ans P a o u := by
  simp only [pureVal] at h
  split at h
  · rename_i i o' hc
    cases h
    have hv := hF.ev hc
    refine ⟨_, hv, fun w' => ?_⟩
    unfold C at hv
    obtain ⟨b, _, hu⟩ := hv
    unfold execOp
    simp only [ho, hu]
    rfl
  · rename_i cs hc
    cases h
    have hv := hF.ev hc
    refine ⟨_, hv, fun w' => ?_⟩
    unfold C CR at hv
    obtain ⟨b, o', hu, _⟩ := hv
    unfold execOp
    simp only [ho, hu]
    rfl
  · rename_i k z i o' hc
    cases h
    have hv := hF.ev hc
    refine ⟨_, hv, fun w' => ?_⟩
    unfold C at hv
    obtain ⟨b, n, c, _, hu⟩ := hv
    unfold execOp
    simp only [ho, hu]
    rfl
  · rename_i f cs hc
    cases h
    have hv := hF.ev hc
    refine ⟨_, hv, fun w' => ?_⟩
    unfold C at hv
    obtain ⟨us, hu, _⟩ := hv
    unfold execOp
    simp only [ho, hu]
    rfl
  · cases h
theorem pv_extract (hF : Fits E w F a) {x : Operand} {j : Nat} (h : pureVal T S F (.extract x j) = some r) {o : Oper} (ho : o.op = .extract x j) : ∃ u, C E w r u ∧ Ans P a o u := by
  simp only [pureVal] at h
  split at h
  · rename_i xs hc
    have hv := hF.ev hc
    unfold C at hv
    obtain ⟨us, hu, hcl⟩ := hv
    obtain ⟨u, m1, m2⟩ := CL_get hcl h
    refine ⟨u, m2, ans_v (s := Instr.extract (a.eval x) j) (by unfold execOp; simp only [ho]) (fun w' => ?_)⟩
    rw [hu]
    unfold Instr.extract
    simp [m1]
  · cases h
theorem pv_makeFunc (hF : Fits E w F a) {fn : Fn} {first captured : Array Operand} (h : pureVal T S F (.makeFunc fn first captured) = some r) {o : Oper} (ho : o.op = .makeFunc fn first captured) : ∃ u, C E w r u ∧ Ans P a o u := by
  simp only [pureVal] at h
  split at h
  · rename_i f h1
    split at h
    · rename_i cs hc
      cases h
      have hcl := hF.evs hc
      have hfirst : first = #[] := by cases first; simp at h1; rw [h1]
      subst hfirst
      refine ⟨.func (.func f) #[] (List.toArray (captured.toList.map a.eval)), by unfold C; exact ⟨_, rfl, hcl⟩, fun w' => ?_⟩
      unfold execOp
      simp only [ho]
      cases captured
      simp [Instr.makeFunc]
    · cases h
  · cases h
theorem call_args {c : Call} {b : Builtin} (hb : c.callee = .builtin b) {o : Oper} (ho : o.op = .call c) : ∃ q, execOp a.eval o = builtin b c.argTypes o.type q (c.args.map a.eval) := by
  refine ⟨c.args.map fun | .const _ => true | _ => false, ?_⟩
  unfold execOp
  simp only [ho, resolve, hb, pure_bind, invoke]
  rfl
theorem arr_one {α : Type} {A : Array α} {x : α} (h : A.toList = [x]) : A = #[x] := by cases A; simp at h; rw [h]
theorem arr_two {α : Type} {A : Array α} {x y : α} (h : A.toList = [x, y]) : A = #[x, y] := by cases A; simp at h; rw [h]
theorem pv_call (hT : TabOk P T) (hS : Sat w0 X E H S w) (hF : Fits E w F a) {c : Call} (h : pureVal T S F (.call c) = some r) {o : Oper} (ho : o.op = .call c) : ∃ u, C E w r u ∧ Ans P a o u := by
  simp only [pureVal] at h
  split at h
  · rename_i x t hb hx ht
    split at h
    · rename_i y v h1 h2
      split at h
      · rename_i e he
        split at h
        · rename_i n hn
          cases h
          obtain ⟨A, c', hu⟩ := lenA_ok hS hn (hF.ev h2)
          refine ⟨_, C_v_mk rfl, fun w' => ?_⟩
          obtain ⟨q, hq⟩ := call_args (a := a) hb ho
          rw [hq, arr_one hx, arr_one ht]
          simp only [List.map_toArray, List.map_cons, List.map_nil, builtin, hu]
          simp [Builtin.len_, run_underlying_ (tyOf_elem (hT _ _ h1) he), goInt]
        · cases h
      · cases h
    · cases h
  · rename_i x y t hb hx
    split at h
    · rename_i k p k' q h1 h2
      split at h
      · rename_i hk
        cases h
        have := kindEq_eq hk
        subst this
        have e1 := C_v (hF.ev h1)
        have e2 := C_v (hF.ev h2)
        refine ⟨_, C_v_mk rfl, fun w' => ?_⟩
        obtain ⟨q', hq⟩ := call_args (a := a) hb ho
        rw [hq, arr_two hx]
        simp only [List.map_toArray, List.map_cons, List.map_nil, builtin, e1, e2]
        simp [Builtin.max_, Builtin.max2, List.foldlM, ← mm_max]
      · cases h
    · cases h
  · rename_i x y t hb hx
    split at h
    · rename_i k p k' q h1 h2
      split at h
      · rename_i hk
        cases h
        have := kindEq_eq hk
        subst this
        have e1 := C_v (hF.ev h1)
        have e2 := C_v (hF.ev h2)
        refine ⟨_, C_v_mk rfl, fun w' => ?_⟩
        obtain ⟨q', hq⟩ := call_args (a := a) hb ho
        rw [hq, arr_two hx]
        simp only [List.map_toArray, List.map_cons, List.map_nil, builtin, e1, e2]
        simp [Builtin.min_, Builtin.min2, List.foldlM, ← mm_min]
      · cases h
    · cases h
  · cases h
/-- What pureVal tells is what the operation answers, in every world. -/
theorem pureVal_ok (hT : TabOk P T) (hS : Sat w0 X E H S w) (hF : Fits E w F a) {o : Oper} (h : pureVal T S F o.op = some r) : ∃ u, C E w r u ∧ Ans P a o u := by
  generalize hop : o.op = op at h
  cases op with
  | move x => exact ⟨_, hF.ev (by simpa [pureVal] using h), ans_move (.inl hop)⟩
  | assign x => exact ⟨_, hF.ev (by simpa [pureVal] using h), ans_move (.inr hop)⟩
  | pick c x y => exact pv_pick hF h hop
  | unOp op t x => exact pv_unOp hF h hop
  | binOp op t x y t' => exact pv_binOp hT hF h hop
  | convert s d x => exact pv_convert hT hF h hop
  | field t x j => exact pv_field hT hF h hop
  | fieldAddr t x j => exact pv_fieldAddr hT hF h hop
  | nilCheck x => exact pv_nilCheck hF h hop
  | extract x j => exact pv_extract hF h hop
  | makeFunc fn f c => exact pv_makeFunc hF h hop
  | call c => exact pv_call hT hS hF h hop
  | build t ps =>
    simp only [pureVal] at h
    split at h
    · rename_i y xs h1 h2
      split at h
      · rename_i h3
        split at h
        · rename_i cs h4
          cases h
          exact build_ok hT hF h1 h2 h3 h4 hop
        · cases h
      · cases h
    · cases h
  | _ => simp [pureVal] at h
end
end Go.Proofs.Ytnenbopcoghmaaa.Kw
