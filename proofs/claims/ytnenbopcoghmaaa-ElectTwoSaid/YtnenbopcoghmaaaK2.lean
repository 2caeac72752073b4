/- The framework of this seat's proofs, part 2: a walk through a function over a symbolic state, proved sound. No condition. -/
import Derived.Test.YtnenbopcoghmaaaK1
import Derived.Test.YtnenbopcoghmaaaWLast
import Derived.Laws.OwnMore
import Derived.Deep.Slices
import Derived.ChangeArms
import Derived.ProofKit
import Derived.OpenShut
import Derived.ChangeOld
import Derived.Carry
import Derived.SizedLaws
set_option linter.unusedSimpArgs false
set_option linter.unusedVariables false
namespace Go.Proofs.Ytnenbopcoghmaaa.Kw
open Go
open Go.Proofs.YtnenbopcoghmaaaW.PrintLast
/-! ### the order of a region -/
inductive Md where
  | p | t | o | l
def Seq (P : Program) (ops : Array Oper) (Q : Exit → Act → World → Prop) (Sx : World → Prop) : List (Nat × Md) → Act → World → Prop
  | [], a, w => Q .normal a w
  | (i, .p) :: r, a, w => ∃ oi, ops[i]? = some oi ∧ ∃ v, Yields P ops oi v a ∧ Seq P ops Q Sx r (a.put oi.dst v) w
  | (i, .t) :: r, a, w => ∃ oi, ops[i]? = some oi ∧ ∃ v, YieldsIf P ops Sx oi v a ∧ Sx w ∧ Seq P ops Q Sx r (a.put oi.dst v) w
  | (i, .o) :: r, a, w => ∃ oi, ops[i]? = some oi ∧ ∀ K : Act → World → Prop, (∀ a' w', Sx w' → Seq P ops Q Sx r a' w' → K a' w') → if Region.wanted oi (yielded ops a.tmps) = true then oi.wp P a w K Q else K (a.put oi.dst undef) w
  | (i, .l) :: r, a, w => ∃ oi, ops[i]? = some oi ∧ ∀ K : Act → World → Prop, (∀ a' w', Seq P ops Q Sx r a' w' → K a' w') → if Region.wanted oi (yielded ops a.tmps) = true then oi.wp P a w K Q else K (a.put oi.dst undef) w
def okS (ops : Array Oper) (ds : List Nat) : List (Nat × Md) → Array Bool → Bool
  | [], l => Region.ready .any ops l == []
  | (i, .p) :: r, l => anyB .any ops l (l.setIfInBounds i true) i && okS ops ds r (l.setIfInBounds i true)
  | (i, .t) :: r, l => takeB .any ops ds l (l.setIfInBounds i true) i && okS ops ds r (l.setIfInBounds i true)
  | (i, .o) :: r, l => readyB .any ops l (l.setIfInBounds i true) i && !ds.contains i && okS ops ds r (l.setIfInBounds i true)
  | (i, .l) :: r, l => readyB .any ops l (l.setIfInBounds i true) i && ds.contains i && okS ops ds r (l.setIfInBounds i true)
section
variable {P : Program} {ops : Array Oper} {Q : Exit → Act → World → Prop} {Sx : World → Prop}
theorem seq_last (hQ : ∀ c a w, ¬ Q (.panic c) a w) {ds : List Nat} : ∀ (sch : List (Nat × Md)) (l : Array Bool) (a : Act) (w : World), okS ops ds sch l = true → Seq P ops Q Sx sch a w → wpAnyLast P .any ops Q Sx ds sch.length l a w
  | [], l, a, w, h, hs => by
    unfold okS at h
    exact done_ h hs
  | (i, .p) :: r, l, a, w, h, hs => by
    unfold okS at h
    rw [Bool.and_eq_true] at h
    obtain ⟨oi, hi, v, hy, hs⟩ := hs
    exact pure_ _ hi rfl h.1 (fun c a w h => absurd h (hQ _ _ _)) hy rfl (seq_last hQ r _ _ _ h.2 hs)
  | (i, .t) :: r, l, a, w, h, hs => by
    unfold okS at h
    rw [Bool.and_eq_true] at h
    obtain ⟨oi, hi, v, hy, hS, hs⟩ := hs
    exact take_ _ hi rfl h.1 (fun c a w h => absurd h (hQ _ _ _)) hy hS rfl (seq_last hQ r _ _ _ h.2 hs)
  | (i, .o) :: r, l, a, w, h, hs => by
    unfold okS at h
    rw [Bool.and_eq_true, Bool.and_eq_true] at h
    obtain ⟨oi, hi, hs⟩ := hs
    refine one_ _ hi rfl h.1.1 (by simpa using h.1.2) (fun K hK => ?_)
    exact hs K (fun a' w' h1 h2 => hK.out a' w' h1 (fun _ => seq_last hQ r _ _ _ h.2 h2))
  | (i, .l) :: r, l, a, w, h, hs => by
    unfold okS at h
    rw [Bool.and_eq_true, Bool.and_eq_true] at h
    obtain ⟨oi, hi, hs⟩ := hs
    refine last_ _ hi rfl h.1.1 (by simpa using h.1.2) (fun K hK => ?_)
    exact hs K (fun a' w' h2 => hK.out a' w' (seq_last hQ r _ _ _ h.2 h2))
def plain : Nat → Nat → List (Nat × Md)
  | _, 0 => []
  | i, n + 1 => (i, .l) :: plain (i + 1) n
theorem seq_plain : ∀ (n i : Nat) (a : Act) (w : World), Seq P ops Q Sx (plain i n) a w → wpOps P ops Q (List.range' i n) a w
  | 0, i, a, w, h => h
  | n + 1, i, a, w, h => by
    obtain ⟨oi, hi, hs⟩ := h
    have h1 := hs (wpOps P ops Q (List.range' (i + 1) n)) (fun a' w' h2 => seq_plain n (i + 1) a' w' h2)
    rw [List.range'_succ]
    unfold wpOps
    simp only [hi]
    split
    · rename_i hw
      rw [if_pos hw] at h1
      exact .inl h1
    · rename_i hw
      rw [if_neg hw] at h1
      exact h1
end
end Go.Proofs.Ytnenbopcoghmaaa.Kw
namespace Go.Proofs.Ytnenbopcoghmaaa.Kw
open Go
open Go.Proofs.YtnenbopcoghmaaaW.PrintLast
structure Ctx where
  P : Program
  T : Tab
  f : FuncId
  fn : Func
  n : Nat
  w0 : World
  X : Org
  R : Ending → World → Prop
structure CtxOk (c : Ctx) : Prop where
  hf : c.P.funcs[c.f]? = some c.fn
  hT : TabOk c.P c.T
  hm : c.P.follows .mixedOrders = true
def Reach (c : Ctx) (k : List Item) (a : Act) (w : World) : Prop :=
  ∀ (b : Frame) (cs : List Frame), b.fn = c.f → b.kind = .normal → ∃ e w' fr, c.R e w' ∧ Comes c.P (lone (b.at a k) cs w) (lone fr cs w') e ∧ fr.fn = c.f ∧ fr.leaving c.P w' e
section
variable {c : Ctx} {k k' : List Item} {a a' : Act} {w w' : World}
theorem Reach.steps (h : Reach c k' a' w') (hs : ∀ (b : Frame) (cs : List Frame), Steps c.P (lone (b.at a k) cs w) (lone (b.at a' k') cs w')) : Reach c k a w := fun b cs h1 h2 =>
  let ⟨e, w1, fr, r, cm, x⟩ := h b cs h1 h2
  ⟨e, w1, fr, r, cm.of_steps (hs b cs), x⟩
theorem Reach.step (h : Reach c k' a' w') (hs : ∀ (b : Frame) (cs : List Frame), step c.P (lone (b.at a k) cs w) = .next (lone (b.at a' k') cs w')) : Reach c k a w := h.steps (fun b cs => .one (hs b cs))
def RQ (c : Ctx) (k : List Item) : Exit → Act → World → Prop
  | .normal, a, w => Reach c k a w
  | _, _, _ => False
theorem Reach.of_wp {x : Code} (h : x.wp c.P (RQ c k) a w) : Reach c (.code x :: k) a w := by
  intro b cs h1 h2
  obtain ⟨e, a1, w1, hq, harr⟩ := h b k cs
  cases e with
  | normal =>
    obtain ⟨e, w2, fr, r, cm, x⟩ := hq b cs h1 h2
    exact ⟨e, w2, fr, r, cm.of_steps harr, x⟩
  | _ => exact hq.elim
theorem Reach.ret {v : Value} (hf : c.P.funcs[c.f]? = some c.fn) (hd : a.defers = []) (hr : (results c.fn a.tmps).run c.P w = .ok v w) (hR : c.R (.returned v) w) : Reach c (.code .ret :: k) a w := by
  intro b cs h1 h2
  exact ⟨.returned v, w, { b.at a (.code .ret :: k) with mode := .returning }, hR, Steps.one step_ret, h1, ⟨rfl, hd, h2, c.fn, by rw [← hf, ← h1]; rfl, hr⟩⟩
theorem Reach.fin {v : Value} (hf : c.P.funcs[c.f]? = some c.fn) (hd : a.defers = []) (hr : (results c.fn a.tmps).run c.P w = .ok v w) (hR : c.R (.returned v) w) : Reach c [] a w := by
  intro b cs h1 h2
  exact ⟨.returned v, w, { b.at a [] with mode := .returning }, hR, Steps.one step_end, h1, ⟨rfl, hd, h2, c.fn, by rw [← hf, ← h1]; rfl, hr⟩⟩
theorem calls_of_reach {code : Code} {args : Array Value} (hf : c.P.funcs[c.f]? = some c.fn) (hb : c.fn.body = some code)
    (h : Reach c [.code code] { tmps := args ++ Array.replicate (c.fn.ntmps - args.size) undef, defers := [] } w) : Calls c.P c.f args w c.R := by
  intro cs
  let b : Frame := { (default : Frame) with fn := c.f, kind := .normal }
  have henter : Frame.enter c.P c.f args .normal = b.at { tmps := args ++ Array.replicate (c.fn.ntmps - args.size) undef, defers := [] } [.code code] := by
    simp [Frame.enter, Frame.at, hf, hb, b]
  obtain ⟨e, w', fr, r, cm, x⟩ := h b cs rfl rfl
  rw [← henter] at cm
  exact ⟨e, w', fr, r, cm, x⟩
end
/-- THE GOAL AT A LIST OF ITEMS. -/
def GI (c : Ctx) (k : List Item) (F : Fr) (H : Hp) (S : Sp) : Prop :=
  ∀ E a w, a.tmps.size = c.n → a.defers = [] → Fits E w F a → Sat c.w0 c.X E H S w → Reach c k a w
/-- Where a region that draws its order began. -/
structure St where
  w1 : World
  n1 : Nat
  S1 : Sp
def Sx (st : Option St) (w : World) : Prop := match st with
  | some s => s.w1.heap.size ≤ w.heap.size ∧ ∀ b, b < s.w1.heap.size → w.heap[b]? = s.w1.heap[b]?
  | none => True
structure Inv (s : St) (E : Env) (w : World) : Prop where
  keeps : Sx (some s) w
  B : ∀ (i b : Nat), i < s.n1 → E.B[i]? = some b → b < s.w1.heap.size
  V : ∀ (i : Nat) (e : SE) (v : Value) (b : Nat), s.S1[i]? = some (some e) → E.V[i]? = some v → v.ownBlock = some b → b < s.w1.heap.size
  Z : ∀ b, E.Z b → b < s.w1.heap.size
/-- THE GOAL IN A REGION. q: where the region began, if it draws; st: the same, as long as no last operation has been taken. -/
def GR (c : Ctx) (ops : Array Oper) (k : List Item) (q st : Option St) (sch : List (Nat × Md)) (F : Fr) (H : Hp) (S : Sp) : Prop :=
  ∀ E a w, a.tmps.size = c.n → a.defers = [] → Fits E w F a → Sat c.w0 c.X E H S w → (∀ s, st = some s → q = some s ∧ Inv s E w) → Seq c.P ops (RQ c k) (Sx q) sch a w
section
variable {c : Ctx} {k : List Item} {F : Fr} {H : Hp} {S : Sp}
theorem gi_seq {x y : Code} (h : GI c (.code x :: .code y :: k) F H S) : GI c (.code (.seq x y) :: k) F H S :=
  fun E a w h1 h2 h3 h4 => (h E a w h1 h2 h3 h4).step (fun _ _ => step_seq)
theorem gi_skip (h : GI c k F H S) : GI c (.code .skip :: k) F H S := fun E a w h1 h2 h3 h4 => (h E a w h1 h2 h3 h4).step (fun _ _ => step_skip)
theorem gi_label {l : Nat} (h : GI c k F H S) : GI c (.code (.label l) :: k) F H S := fun E a w h1 h2 h3 h4 => (h E a w h1 h2 h3 h4).step (fun _ _ => step_label)
theorem gi_block {id : Nat} {x : Code} (h : GI c (.code x :: .inBlock id :: k) F H S) : GI c (.code (.block id x) :: k) F H S :=
  fun E a w h1 h2 h3 h4 => (h E a w h1 h2 h3 h4).step (fun _ _ => step_block)
theorem gi_inBlock {id : Nat} (h : GI c k F H S) : GI c (.inBlock id :: k) F H S := fun E a w h1 h2 h3 h4 => (h E a w h1 h2 h3 h4).step (fun _ _ => step_inBlock)
theorem gi_exit {id : Nat} {k' : List Item} (hk : exitTo id k = some k') (h : GI c k' F H S) : GI c (.code (.exit id) :: k) F H S :=
  fun E a w h1 h2 h3 h4 => (h E a w h1 h2 h3 h4).step (fun _ _ => step_exit hk)
theorem gi_loop0 {x : Code} (h : GI c (.code x :: .inLoop x :: k) F H S) : GI c (.code (.loop x) :: k) F H S :=
  fun E a w h1 h2 h3 h4 => (h E a w h1 h2 h3 h4).step (fun _ _ => step_loop)
theorem gi_inLoop {x : Code} (h : GI c (.code x :: .inLoop x :: k) F H S) : GI c (.inLoop x :: k) F H S :=
  fun E a w h1 h2 h3 h4 => (h E a w h1 h2 h3 h4).step (fun _ _ => step_inLoop)
theorem gi_cond {o : Operand} {x y : Code} {p : Bool} (hc : ev F o = some (.r (.v (.bool p)))) (ht : p = true → GI c (.code x :: k) F H S) (hf : p = false → GI c (.code y :: k) F H S) : GI c (.code (.cond o x y) :: k) F H S := by
  intro E a w h1 h2 h3 h4
  have := C_v (h3.ev hc)
  cases p with
  | true => exact (ht rfl E a w h1 h2 h3 h4).step (fun _ _ => by rw [step_cond this]; rfl)
  | false => exact (hf rfl E a w h1 h2 h3 h4).step (fun _ _ => by rw [step_cond this]; rfl)
theorem gi_true {o : Operand} {x y : Code} (hc : ev F o = some (.r (.v (.bool true)))) (ht : GI c (.code x :: k) F H S) : GI c (.code (.cond o x y) :: k) F H S := gi_cond hc (fun _ => ht) (fun h => by cases h)
theorem gi_false {o : Operand} {x y : Code} (hc : ev F o = some (.r (.v (.bool false)))) (ht : GI c (.code y :: k) F H S) : GI c (.code (.cond o x y) :: k) F H S := gi_cond hc (fun h => by cases h) (fun _ => ht)
theorem gi_lt {o : Operand} {x y : Code} {p q : Int} (hc : ev F o = some (.r (.v (.bool (ltB p q))))) (ht : p < q → GI c (.code x :: k) F H S) (hf : ¬ p < q → GI c (.code y :: k) F H S) : GI c (.code (.cond o x y) :: k) F H S :=
  gi_cond hc (fun h => ht (by rw [ltB_eq] at h; exact of_decide_eq_true h)) (fun h => hf (by rw [ltB_eq] at h; exact of_decide_eq_false h))
theorem gi_le {o : Operand} {x y : Code} {p q : Int} (hc : ev F o = some (.r (.v (.bool (leB p q))))) (ht : p ≤ q → GI c (.code x :: k) F H S) (hf : ¬ p ≤ q → GI c (.code y :: k) F H S) : GI c (.code (.cond o x y) :: k) F H S :=
  gi_cond hc (fun h => ht (by rw [leB_eq] at h; exact of_decide_eq_true h)) (fun h => hf (by rw [leB_eq] at h; exact of_decide_eq_false h))
theorem gi_eq {o : Operand} {x y : Code} {p q : Int} (hc : ev F o = some (.r (.v (.bool (eqB p q))))) (ht : p = q → GI c (.code x :: k) F H S) (hf : p ≠ q → GI c (.code y :: k) F H S) : GI c (.code (.cond o x y) :: k) F H S :=
  gi_cond hc (fun h => ht (by rw [eqB_eq] at h; simpa using h)) (fun h => hf (by rw [eqB_eq] at h; simpa using h))
theorem gi_ne {o : Operand} {x y : Code} {p q : Int} (hc : ev F o = some (.r (.v (.bool (notB (eqB p q)))))) (ht : p ≠ q → GI c (.code x :: k) F H S) (hf : p = q → GI c (.code y :: k) F H S) : GI c (.code (.cond o x y) :: k) F H S :=
  gi_cond hc (fun h => ht (by rw [notB_eq, eqB_eq] at h; simpa using h)) (fun h => hf (by rw [notB_eq, eqB_eq] at h; simpa using h))
def inText : Nat → List Oper → List (Nat × Md)
  | _, [] => []
  | i, _ :: r => (i, .l) :: inText (i + 1) r
theorem inText_eq : ∀ (l : List Oper) (i : Nat), inText i l = plain i l.length
  | [], _ => rfl
  | _ :: l, i => by
    show _ :: inText (i + 1) l = plain i (l.length + 1)
    unfold plain
    rw [inText_eq l (i + 1)]
/-- The region in the text's order. -/
theorem gi_plain {id : Nat} {l : List Oper} (h : GR c (List.toArray l) k none none (inText 0 l) F H S) : GI c (.code (.region id (List.toArray l) false) :: k) F H S := by
  intro E a w h1 h2 h3 h4
  refine Reach.of_wp (wp_region ?_)
  rw [List.range_eq_range']
  rw [inText_eq] at h
  exact seq_plain l.length 0 a w (h E a w h1 h2 h3 h4 (fun _ h => by cases h))
/-- The region that draws its order. -/
theorem gi_draw {id : Nat} {ops : Array Oper} (ds : List Nat) (sch : List (Nat × Md)) (hm : c.P.follows .mixedOrders = true) (hn : ops.size = sch.length) (hs : okS ops ds sch (Array.replicate sch.length false) = true)
    (h : ∀ w1 : World, GR c ops k (some ⟨w1, H.length, S⟩) (some ⟨w1, H.length, S⟩) sch F H S) : GI c (.code (.region id ops true) :: k) F H S := by
  intro E a w h1 h2 h3 h4
  refine Reach.of_wp ?_
  have hd := Stays.drew E H S w
  have h4' := h4.stays hd
  have inv : Inv ⟨w.drew, H.length, S⟩ E w.drew := by
    refine ⟨⟨Nat.le_refl _, fun _ _ => rfl⟩, fun i b _ hb => (h4'.bB i b hb).1, fun i e v b hi hv hb => ?_, h4'.Z⟩
    obtain ⟨v', cs, k1, k2, _⟩ := h4'.sl i e hi
    rw [hv] at k1
    cases k1
    exact own_block_lt k2 b hb
  refine wp_region_last (S := Sx (some ⟨w.drew, H.length, S⟩)) (ds := ds) hm ?_
  rw [hn]
  exact seq_last (fun c a w h => h) sch _ a w.drew hs (h w.drew E a w.drew h1 h2 (h3.mono (Env.le_refl E) (fun _ _ => rfl)) h4' (fun s hs => by cases hs; exact ⟨rfl, inv⟩))
end
end Go.Proofs.Ytnenbopcoghmaaa.Kw
namespace Go.Proofs.Ytnenbopcoghmaaa.Kw
open Go
def gOk (ops : Array Oper) (F : Fr) : Option (Nat × Bool) → Option Bool
  | none => some true
  | some (j, want) => match ops[j]? with
    | some o => match o.dst with
      | some d => match F.get d with
        | some (.r (.v (.bool b))) => some (b == want)
        | some (.tup _) => some false
        | _ => none
      | none => none
    | none => none
def mOk : Md → Option St → Bool
  | .p, _ => true
  | .t, some _ => true
  | .o, some _ => true
  | .l, _ => true
  | _, none => false
section
variable {c : Ctx} {ops : Array Oper} {k : List Item} {q st : Option St} {i : Nat} {m : Md} {sch : List (Nat × Md)} {F : Fr} {H : Hp} {S : Sp} {o : Oper} {d : Nat} {r : AV} {E : Env} {a : Act} {w w' : World}
theorem gOk_ok (hF : Fits E w F a) {b : Bool} (h : gOk ops F o.guard = some b) : Region.wanted o (yielded ops a.tmps) = b := by
  unfold Region.wanted
  cases hg : o.guard with
  | none => rw [hg] at h; simp [gOk] at h; rw [← h]
  | some x =>
    obtain ⟨j, want⟩ := x
    rw [hg] at h
    simp only [gOk] at h
    cases hj : ops[j]? with
    | none => simp [hj] at h
    | some oj =>
      simp only [hj] at h
      cases hd : oj.dst with
      | none => simp [hd] at h
      | some d =>
        simp only [hd] at h
        split at h
        · rename_i b' hb
          obtain ⟨u, h1, h2⟩ := hF.get d _ hb
          have := C_v h2
          subst this
          cases h
          simp [yielded, hj, hd, h1]
        · rename_i cs hb
          obtain ⟨u, h1, h2⟩ := hF.get d _ hb
          unfold C at h2
          obtain ⟨us, rfl, _⟩ := h2
          cases h
          simp [yielded, hj, hd, h1]
        · cases h
theorem sx_of (hq : ∀ s, st = some s → q = some s ∧ Inv s E w) (hst : st.isSome = true) : Sx q w := by
  cases hs : st with
  | none => rw [hs] at hst; cases hst
  | some s => obtain ⟨h1, h2⟩ := hq s hs; rw [h1]; exact h2.keeps
/-- An operation's answer, in every world. -/
theorem seq_ans {Q : Exit → Act → World → Prop} {S' : World → Prop} {u : Value} (hi : ops[i]? = some o) (hw : Region.wanted o (yielded ops a.tmps) = true) (hu : Ans c.P a o u) (hS : m = .p ∨ m = .l ∨ S' w) (h : Seq c.P ops Q S' sch (a.put o.dst u) w) : Seq c.P ops Q S' ((i, m) :: sch) a w := by
  cases m with
  | p => exact ⟨o, hi, u, .inl ⟨hw, hu⟩, h⟩
  | t => exact ⟨o, hi, u, .inl ⟨hw, fun w' _ => hu w'⟩, by rcases hS with hS | hS | hS <;> first | cases hS | exact hS, h⟩
  | o =>
    refine ⟨o, hi, fun K hK => ?_⟩
    rw [if_pos hw]
    unfold Oper.wp
    rw [hu w]
    exact hK _ _ (by rcases hS with hS | hS | hS <;> first | cases hS | exact hS) h
  | l =>
    refine ⟨o, hi, fun K hK => ?_⟩
    rw [if_pos hw]
    unfold Oper.wp
    rw [hu w]
    exact hK _ _ h
/-- An operation that yields a value in this world, and may make memory. -/
theorem seq_value {Q : Exit → Act → World → Prop} {S' : World → Prop} {u : Value} (hi : ops[i]? = some o) (hw : Region.wanted o (yielded ops a.tmps) = true) (hu : (execOp a.eval o).run c.P w = .ok (.value u) w') (hS : (m = .o ∧ S' w') ∨ m = .l) (h : Seq c.P ops Q S' sch (a.put o.dst u) w') : Seq c.P ops Q S' ((i, m) :: sch) a w := by
  rcases hS with ⟨rfl, hS⟩ | rfl
  · refine ⟨o, hi, fun K hK => ?_⟩
    rw [if_pos hw]
    unfold Oper.wp
    rw [hu]
    exact hK _ _ hS h
  · refine ⟨o, hi, fun K hK => ?_⟩
    rw [if_pos hw]
    unfold Oper.wp
    rw [hu]
    exact hK _ _ h
theorem seq_skip {Q : Exit → Act → World → Prop} {S' : World → Prop} (hi : ops[i]? = some o) (hw : Region.wanted o (yielded ops a.tmps) = true) (hu : (execOp a.eval o).run c.P w = .ok .skip w') (hS : (m = .o ∧ S' w') ∨ m = .l) (h : Seq c.P ops Q S' sch (a.put o.dst undef) w') : Seq c.P ops Q S' ((i, m) :: sch) a w := by
  rcases hS with ⟨rfl, hS⟩ | rfl
  · refine ⟨o, hi, fun K hK => ?_⟩
    rw [if_pos hw]
    unfold Oper.wp
    rw [hu]
    exact hK _ _ hS h
  · refine ⟨o, hi, fun K hK => ?_⟩
    rw [if_pos hw]
    unfold Oper.wp
    rw [hu]
    exact hK _ _ h
theorem seq_call {Q : Exit → Act → World → Prop} {S' : World → Prop} {g : FuncId} {us : Array Value} (hi : ops[i]? = some o) (hw : Region.wanted o (yielded ops a.tmps) = true) (hu : (execOp a.eval o).run c.P w = .ok (.enter g us) w)
    (h : Calls c.P g us w fun e w' => ∃ u, e = .returned u ∧ ((m = .o ∧ S' w') ∨ m = .l) ∧ Seq c.P ops Q S' sch (a.put o.dst u) w') : m = .o ∨ m = .l → Seq c.P ops Q S' ((i, m) :: sch) a w := by
  intro hm
  rcases hm with rfl | rfl
  · refine ⟨o, hi, fun K hK => ?_⟩
    rw [if_pos hw]
    unfold Oper.wp
    rw [hu, Oper.upon_enter]
    refine h.mono fun e w' hh => ?_
    obtain ⟨u, rfl, hS, hk⟩ := hh
    rcases hS with ⟨_, hS⟩ | hS
    · exact hK _ _ hS hk
    · cases hS
  · refine ⟨o, hi, fun K hK => ?_⟩
    rw [if_pos hw]
    unfold Oper.wp
    rw [hu, Oper.upon_enter]
    refine h.mono fun e w' hh => ?_
    obtain ⟨u, rfl, _, hk⟩ := hh
    exact hK _ _ hk

/-! ### the rules -/
/-- An operation is next (this takes nothing: it tells the kind of goal). -/
theorem r_op (h : GR c ops k q st ((i, m) :: sch) F H S) : GR c ops k q st ((i, m) :: sch) F H S := h
theorem gi_cnd {x : Operand} {y z : Code} (h : GI c (.code (.cond x y z) :: k) F H S) : GI c (.code (.cond x y z) :: k) F H S := h
theorem r_end (h : GI c k F H S) : GR c ops k q st [] F H S := fun E a w h1 h2 h3 h4 _ => h E a w h1 h2 h3 h4
theorem r_pure (hT : TabOk c.P c.T) (hi : ops[i]? = some o) (hd : o.dst = some d) (hn : Nat.blt d c.n = true) (hg : gOk ops F o.guard = some true) (hm : mOk m st = true) (hv : pureVal c.T S F o.op = some r)
    (h : GR c ops k q st sch ((d, r) :: F) H S) : GR c ops k q st ((i, m) :: sch) F H S := by
  intro E a w h1 h2 h3 h4 h5
  obtain ⟨u, hu, ha⟩ := pureVal_ok hT h4 h3 hv
  refine seq_ans hi (gOk_ok h3 hg) ha ?_ ?_
  · cases m with
    | p => exact .inl rfl
    | l => exact .inr (.inl rfl)
    | _ => cases st with
      | none => cases hm
      | some s => exact .inr (.inr (sx_of h5 rfl))
  · rw [hd]
    refine h E _ w ?_ ?_ (h3.put hu (by rw [h1]; exact hn)) h4 h5
    · rw [(put_size _ _ _).1]; exact h1
    · rw [(put_size _ _ _).2]; exact h2
/-- An operation whose guard says no. -/
theorem r_off (hi : ops[i]? = some o) (hd : o.dst = some d) (hn : Nat.blt d c.n = true) (hg : gOk ops F o.guard = some false) (hm : mOk m st = true)
    (h : GR c ops k q st sch ((d, .tup []) :: F) H S) : GR c ops k q st ((i, m) :: sch) F H S := by
  intro E a w h1 h2 h3 h4 h5
  have hw := gOk_ok (o := o) h3 hg
  have hj : C E w (.tup []) undef := by unfold C; exact ⟨[], rfl, by unfold CL; rfl⟩
  have rest : Seq c.P ops (RQ c k) (Sx q) sch (a.put o.dst undef) w := by
    rw [hd]
    refine h E _ w ?_ ?_ (h3.put hj (by rw [h1]; exact hn)) h4 h5
    · rw [(put_size _ _ _).1]; exact h1
    · rw [(put_size _ _ _).2]; exact h2
  cases m with
  | p => exact ⟨o, hi, undef, .inr ⟨hw, rfl⟩, rest⟩
  | t => cases st with
    | none => cases hm
    | some s => exact ⟨o, hi, undef, .inr ⟨hw, rfl⟩, sx_of h5 rfl, rest⟩
  | o => cases st with
    | none => cases hm
    | some s => exact ⟨o, hi, fun K hK => by rw [if_neg (by rw [hw]; decide)]; exact hK _ _ (sx_of h5 rfl) rest⟩
  | l => exact ⟨o, hi, fun K hK => by rw [if_neg (by rw [hw]; decide)]; exact hK _ _ rest⟩
/-- An operation without a destination whose guard says no. -/
theorem r_off0 (hi : ops[i]? = some o) (hd : o.dst = none) (hg : gOk ops F o.guard = some false) (hm : mOk m st = true) (h : GR c ops k q st sch F H S) : GR c ops k q st ((i, m) :: sch) F H S := by
  intro E a w h1 h2 h3 h4 h5
  have hw := gOk_ok (o := o) h3 hg
  have rest : Seq c.P ops (RQ c k) (Sx q) sch (a.put o.dst undef) w := by
    rw [hd]
    exact h E _ w h1 h2 h3 h4 h5
  cases m with
  | p => exact ⟨o, hi, undef, .inr ⟨hw, rfl⟩, rest⟩
  | t => cases st with
    | none => cases hm
    | some s => exact ⟨o, hi, undef, .inr ⟨hw, rfl⟩, sx_of h5 rfl, rest⟩
  | o => cases st with
    | none => cases hm
    | some s => exact ⟨o, hi, fun K hK => by rw [if_neg (by rw [hw]; decide)]; exact hK _ _ (sx_of h5 rfl) rest⟩
  | l => exact ⟨o, hi, fun K hK => by rw [if_neg (by rw [hw]; decide)]; exact hK _ _ rest⟩
/-- What a slot holds is told otherwise. -/
theorem Fits.turn (hF : Fits E w F a) {x y : AV} (hx : F.get d = some x) (hxy : ∀ u, C E w x u → C E w y u) : Fits E w ((d, y) :: F) a := by
  refine ⟨fun n z hz => ?_⟩
  unfold Fr.get at hz
  cases hb : Nat.beq d n with
  | true =>
    rw [hb] at hz
    simp at hz
    have : d = n := Nat.eq_of_beq_eq_true hb
    subst this; subst hz
    obtain ⟨u, h1, h2⟩ := hF.get d x hx
    exact ⟨u, h1, hxy u h2⟩
  | false => rw [hb] at hz; exact hF.get n z hz
theorem r_turn {x y : AV} (hx : F.get d = some x) (hxy : x = y) (h : GR c ops k q st sch ((d, y) :: F) H S) : GR c ops k q st sch F H S :=
  fun E a w h1 h2 h3 h4 h5 => h E a w h1 h2 (h3.turn hx (fun _ hu => hxy ▸ hu)) h4 h5
theorem gi_turn {x y : AV} (hx : F.get d = some x) (hxy : x = y) (h : GI c k ((d, y) :: F) H S) : GI c k F H S :=
  fun E a w h1 h2 h3 h4 => h E a w h1 h2 (h3.turn hx (fun _ hu => hxy ▸ hu)) h4
/-- A Bool that a slot holds is decided. -/
theorem r_case {p : Bool} (hx : F.get d = some (.r (.v (.bool p)))) (ht : p = true → GR c ops k q st sch ((d, .r (.v (.bool true))) :: F) H S) (hf : p = false → GR c ops k q st sch ((d, .r (.v (.bool false))) :: F) H S) : GR c ops k q st sch F H S := by
  cases p with
  | true => exact r_turn hx rfl (ht rfl)
  | false => exact r_turn hx rfl (hf rfl)
theorem r_known {p b : Bool} (hx : F.get d = some (.r (.v (.bool p)))) (hp : p = b) (h : GR c ops k q st sch ((d, .r (.v (.bool b))) :: F) H S) : GR c ops k q st sch F H S := r_turn hx (by rw [hp]) h
theorem gi_known {p b : Bool} (hx : F.get d = some (.r (.v (.bool p)))) (hp : p = b) (h : GI c k ((d, .r (.v (.bool b))) :: F) H S) : GI c k F H S := gi_turn hx (by rw [hp]) h
end
end Go.Proofs.Ytnenbopcoghmaaa.Kw
namespace Go.Proofs.Ytnenbopcoghmaaa.Kw
open Go
def rows : List RV → List AV
  | [] => []
  | x :: xs => .r x :: rows xs
/-- What a load of type y behind a pointer finds. -/
def loadA (y : Ty) (H : Hp) : AV → Option AV
  | .box i off => match H[i]? with
    | some (some (_, cs)) => match y.agg with
      | true => match Nat.ble (off + y.size) cs.length with
        | true => some (.agg ((cs.drop off).take y.size))
        | false => none
      | false => cs[off]?
    | _ => none
  | .r (.ro cs) => match y.agg with
    | true => match Nat.ble y.size cs.length with
      | true => some (.agg (rows (cs.take y.size)))
      | false => none
    | false => match cs with
      | x :: _ => some (.r x)
      | [] => none
  | _ => none
def oldA (s : St) : AV → Bool
  | .box i _ => Nat.blt i s.n1
  | .r (.ro _) => true
  | .el _ _ _ _ => true
  | _ => false
def lOk (m : Md) (st : Option St) (x : AV) : Bool := match m, st with
  | .l, _ => true
  | .o, some _ => true
  | .t, some s => oldA s x
  | _, _ => false
section
variable {c : Ctx} {ops : Array Oper} {k : List Item} {q st : Option St} {i : Nat} {m : Md} {sch : List (Nat × Md)} {F : Fr} {H : Hp} {S : Sp} {o : Oper} {d : Nat} {r : AV} {E : Env} {a : Act} {w w' : World} {P : Program}
theorem run_loadCells : ∀ (n j : Nat) (b o : Nat) (us : List Value) (acc : Array Value), us.length = n → (∀ i u, us[i]? = some u → w.cell? ⟨b, o + (j + i), none⟩ = some u) → (loadCellsFrom ⟨b, o, none⟩ j n acc).run P w = .ok (acc ++ List.toArray us) w
  | 0, j, b, o, us, acc, hl, _ => by
    have : us = [] := List.eq_nil_of_length_eq_zero hl
    subst this
    simp [loadCellsFrom]
  | n + 1, j, b, o, us, acc, hl, h => by
    cases us with
    | nil => simp at hl
    | cons u us =>
      unfold loadCellsFrom
      have h0 : w.cell? ((⟨b, o, none⟩ : Addr).add j) = some u := by
        have := h 0 u (by simp)
        unfold Addr.add
        split
        · rename_i hj; subst hj; simpa using this
        · simpa using this
      simp only [Sem.run_bind, run_load, h0, Result.andThen_ok]
      rw [run_loadCells n (j + 1) b o us _ (by simpa using hl) (fun i v hv => by
        have := h (i + 1) v (by simpa using hv)
        rw [show j + 1 + i = j + (i + 1) from by omega]; exact this)]
      simp
theorem run_loadVar {t : TypeId} {y : Ty} (hy : tyOf P t = some y) {b o : Nat} {us : List Value} {u : Value} (hc : ∀ i u, us[i]? = some u → w.cell? ⟨b, o + i, none⟩ = some u)
    (hu : match y.agg with
      | true => us.length = y.size ∧ u = .agg (List.toArray us)
      | false => us[0]? = some u) : (loadVar t ⟨b, o, none⟩).run P w = .ok u w := by
  obtain ⟨d, hd, ha⟩ := tyOf_agg hy
  obtain ⟨i, z, hi, hs, _⟩ := tyOf_zero hy
  unfold loadVar
  simp only [Sem.run_bind, run_isAgg_ hd, Result.andThen_ok, ha]
  cases hag : y.agg with
  | true =>
    rw [hag] at hu
    obtain ⟨hl, rfl⟩ := hu
    simp only [if_true, Sem.run_bind, run_sizeOf_ hi, Result.andThen_ok, loadCells, hs]
    rw [run_loadCells y.size 0 b o us #[] hl (fun i v hv => by rw [Nat.zero_add]; exact hc i v hv)]
    simp
  | false =>
    rw [hag] at hu
    have := hc 0 u hu
    simp only [Nat.add_zero] at this
    simp [this]
theorem cells_of_block {b : Nat} {t : TypeId} {us : List Value} {fz : Nat × Nat} (h : w.heap[b]? = some (.cells (List.toArray us) t fz)) {o : Nat} {u : Value} (hu : us[o]? = some u) : w.cell? ⟨b, o, none⟩ = some u := by
  simp [World.cell?, h, hu]
theorem CAt_cells {Z : Nat → Prop} : ∀ {cs : List RV} {b o : Nat}, CAt Z w cs b o → ∃ us, RL Z w cs us ∧ ∀ (i : Nat) (u : Value), us[i]? = some u → w.cell? ⟨b, o + i, none⟩ = some u
  | [], b, o, _ => ⟨[], by unfold RL; rfl, fun i u h => by simp at h⟩
  | x :: cs, b, o, h => by
    unfold CAt at h
    obtain ⟨⟨u, h1, h2⟩, h3⟩ := h
    obtain ⟨us, h4, h5⟩ := CAt_cells h3
    refine ⟨u :: us, by unfold RL; exact ⟨u, us, rfl, h2, h4⟩, fun i v hv => ?_⟩
    cases i with
    | zero => simp at hv; subst hv; simpa using h1
    | succ i => simp at hv; have := h5 i v hv; rw [show o + (i + 1) = o + 1 + i from by omega]; exact this
theorem RL_rows {Z : Nat → Prop} {B : List Nat} {V : List Value} : ∀ {cs : List RV} {us : List Value}, RL Z w cs us → CL ⟨B, V, Z⟩ w (rows cs) us
  | [], us, h => by unfold RL at h; subst h; unfold rows CL; rfl
  | x :: cs, us, h => by
    unfold RL at h
    obtain ⟨u, r, rfl, h2, h3⟩ := h
    unfold rows CL
    exact ⟨u, r, rfl, by unfold C; exact h2, RL_rows h3⟩
theorem RL_take {Z : Nat → Prop} : ∀ (n : Nat) {cs : List RV} {us : List Value}, RL Z w cs us → RL Z w (cs.take n) (us.take n)
  | 0, cs, us, _ => by simp; unfold RL; rfl
  | n + 1, [], us, h => by unfold RL at h; subst h; simp; unfold RL; rfl
  | n + 1, x :: cs, us, h => by
    unfold RL at h
    obtain ⟨u, r, rfl, h2, h3⟩ := h
    simp only [List.take_succ_cons]
    unfold RL
    exact ⟨u, _, rfl, h2, RL_take n h3⟩
/-- A load's answer; cells: what must stand in memory for it. -/
theorem loadA_ok {w0 : World} {X : Org} {y : Ty} {t : TypeId} (hy : tyOf c.P t = some y) (hS : Sat w0 X E H S w) {x : AV} (hl : loadA y H x = some r) {v : Value} (hx : C E w x v) :
    ∃ u, C E w r u ∧ ∃ b o, v = .pointer (some ⟨b, o, none⟩) ∧ b < w.heap.size ∧ (match x with | .box i _ => E.B[i]? = some b | .r (.ro _) => E.Z b | _ => False) ∧ ∀ w' : World, w'.heap[b]? = w.heap[b]? → (loadVar t ⟨b, o, none⟩).run c.P w' = .ok u w' := by
  cases x with
  | box i off =>
    simp only [loadA] at hl
    split at hl
    · rename_i t' cs hi
      obtain ⟨b, us, k1, k2, k3, k4⟩ := hS.box i _ cs hi
      unfold C at hx
      obtain ⟨b', h1, h2⟩ := hx
      rw [k1] at h1; cases h1
      have hul := CL_length k3
      split at hl
      · rename_i hag
        split at hl
        · rename_i hle
          cases hl
          have hle' := Nat.le_of_ble_eq_true hle
          refine ⟨.agg (List.toArray ((us.drop off).take y.size)), by unfold C; exact ⟨_, rfl, CL_take (CL_drop k3 off) y.size, fun z hz => k4 z (List.mem_of_mem_drop (List.mem_of_mem_take hz))⟩, b, off, h2, (hS.bB i b k1).1, k1, fun w' hw' => ?_⟩
          refine run_loadVar hy (us := (us.drop off).take y.size) (fun j u hj => ?_) (by rw [hag]; exact ⟨by simp; omega, rfl⟩)
          rw [List.getElem?_take] at hj
          split at hj
          · rw [List.getElem?_drop] at hj
            exact cells_of_block (hw'.trans k2) hj
          · cases hj
        · cases hl
      · rename_i hag
        obtain ⟨u, m1, m2⟩ := CL_get k3 hl
        refine ⟨u, m2, b, off, h2, (hS.bB i b k1).1, k1, fun w' hw' => run_loadVar hy (us := us.drop off) (fun j u hj => ?_) (by rw [hag]; simpa using m1)⟩
        rw [List.getElem?_drop] at hj
        exact cells_of_block (hw'.trans k2) hj
    · cases hl
  | r rv =>
    cases rv with
    | ro cs =>
      simp only [loadA] at hl
      unfold C CR at hx
      obtain ⟨b, o', hv, hz, hc⟩ := hx
      obtain ⟨us, h4, h5⟩ := CAt_cells hc
      have hul := RL_length h4
      have cell : ∀ w' : World, w'.heap[b]? = w.heap[b]? → ∀ (i : Nat) (u : Value), us[i]? = some u → w'.cell? ⟨b, o' + i, none⟩ = some u := fun w' hw' i u hu => by
        rw [World.cell?_of_block (w := w) (w' := w') (a := ⟨b, o' + i, none⟩) hw']; exact h5 i u hu
      split at hl
      · rename_i hag
        split at hl
        · rename_i hle
          cases hl
          have hle' := Nat.le_of_ble_eq_true hle
          have ht := RL_take y.size h4
          refine ⟨.agg (List.toArray (us.take y.size)), by unfold C; exact ⟨_, rfl, RL_rows ht, RL_one ht⟩, b, o', hv, hS.Z b hz, hz, fun w' hw' => ?_⟩
          refine run_loadVar hy (us := us.take y.size) (fun j u hj => ?_) (by rw [hag]; exact ⟨by simp; omega, rfl⟩)
          rw [List.getElem?_take] at hj
          split at hj
          · exact cell w' hw' j u hj
          · cases hj
        · cases hl
      · rename_i hag
        split at hl
        · rename_i x xs
          cases hl
          unfold RL at h4
          obtain ⟨u, rr, rfl, h6, h7⟩ := h4
          exact ⟨u, by unfold C; exact h6, b, o', hv, hS.Z b hz, hz, fun w' hw' => run_loadVar hy (us := u :: rr) (cell w' hw') (by rw [hag]; simp)⟩
        · cases hl
    | _ => simp [loadA] at hl
  | _ => simp [loadA] at hl
theorem r_load {t : TypeId} {y : Ty} {x : Operand} {v : AV} (hT : TabOk c.P c.T) (hi : ops[i]? = some o) (hop : o.op = .load t x) (hd : o.dst = some d) (hn : Nat.blt d c.n = true) (hg : gOk ops F o.guard = some true)
    (hx : ev F x = some v) (hy : c.T.get t = some y) (hm : lOk m st v = true) (hl : loadA y H v = some r) (h : GR c ops k q st sch ((d, r) :: F) H S) : GR c ops k q st ((i, m) :: sch) F H S := by
  intro E a w h1 h2 h3 h4 h5
  obtain ⟨u, hu, b, o', hv, hlt, hwh, hrun⟩ := loadA_ok (hT t y hy) h4 hl (h3.ev hx)
  have rest : Seq c.P ops (RQ c k) (Sx q) sch (a.put o.dst u) w := by
    rw [hd]
    refine h E _ w ?_ ?_ (h3.put hu (by rw [h1]; exact hn)) h4 h5
    · rw [(put_size _ _ _).1]; exact h1
    · rw [(put_size _ _ _).2]; exact h2
  have run : ∀ w' : World, w'.heap[b]? = w.heap[b]? → (execOp a.eval o).run c.P w' = .ok (.value u) w' := fun w' hw' => by
    unfold execOp
    simp only [hop, hv, Instr.loadAt, Instr.sureAddr, pure_bind, Sem.run_bind, hrun w' hw', Result.andThen_ok, Sem.run_pure]
  have hw := gOk_ok (o := o) h3 hg
  cases m with
  | p => cases st <;> cases hm
  | o => cases st with
    | none => cases hm
    | some s => exact seq_value hi hw (run w rfl) (.inl ⟨rfl, sx_of h5 rfl⟩) rest
  | l => exact seq_value hi hw (run w rfl) (.inr rfl) rest
  | t => cases st with
    | none => cases hm
    | some s =>
      obtain ⟨hq, inv⟩ := h5 s rfl
      refine ⟨o, hi, u, .inl ⟨hw, fun w' hw' => run w' ?_⟩, sx_of h5 rfl, rest⟩
      rw [hq] at hw'
      have hb : b < s.w1.heap.size := by
        cases v with
        | box j off =>
          simp only [lOk, oldA] at hm
          exact inv.B j b (Nat.le_of_ble_eq_true hm) hwh
        | r rv => cases rv with
          | ro cs => exact inv.Z b hwh
          | _ => simp [loadA] at hl
        | _ => simp [loadA] at hl
      exact (hw'.2 b hb).trans (inv.keeps.2 b hb).symm
end
end Go.Proofs.Ytnenbopcoghmaaa.Kw
namespace Go.Proofs.Ytnenbopcoghmaaa.Kw
open Go
/-- The cells of a value. -/
def cellsA : AV → Option (List AV)
  | .agg cs => some cs
  | x => match cellA x with
    | true => some [x]
    | false => none
def oOk (m : Md) (st : Option St) : Bool := match m, st with
  | .l, none => true
  | .o, some _ => true
  | _, _ => false
section
variable {c : Ctx} {ops : Array Oper} {k : List Item} {q st : Option St} {i : Nat} {m : Md} {sch : List (Nat × Md)} {F : Fr} {H : Hp} {S : Sp} {o : Oper} {d : Nat} {r : AV} {E E' : Env} {a : Act} {w w' : World} {P : Program}
theorem cellsA_ok {x : AV} {cs : List AV} {u : Value} (h : cellsA x = some cs) (hx : C E w x u) : ∃ us, u.cells = List.toArray us ∧ CL E w cs us ∧ ∀ z ∈ us, z.oneCell' = true := by
  unfold cellsA at h
  split at h
  · cases h
    unfold C at hx
    obtain ⟨us, rfl, h1, h2⟩ := hx
    exact ⟨us, rfl, h1, h2⟩
  · split at h
    · rename_i hc
      cases h
      have h1 := cellA_one hc hx
      refine ⟨[u], by rw [one_cells h1], by unfold CL; exact ⟨u, [], rfl, hx, by unfold CL; rfl⟩, fun z hz => by rw [List.mem_singleton.1 hz]; exact h1⟩
    · cases h
/-- The world has grown alone. -/
theorem Inv.grow {s : St} (h : Inv s E w) (hsz : w.heap.size ≤ w'.heap.size) (hb : ∀ b, b < w.heap.size → w'.heap[b]? = w.heap[b]?) (hB : ∀ (i b : Nat), i < s.n1 → E'.B[i]? = some b → E.B[i]? = some b)
    (hV : ∀ (i : Nat) (e : SE) (v : Value), s.S1[i]? = some (some e) → E'.V[i]? = some v → E.V[i]? = some v) (hZ : ∀ b, E'.Z b → E.Z b) : Inv s E' w' :=
  ⟨⟨Nat.le_trans h.keeps.1 hsz, fun b hlt => (hb b (Nat.lt_of_lt_of_le hlt h.keeps.1)).trans (h.keeps.2 b hlt)⟩, fun i b hi hb => h.B i b hi (hB i b hi hb), fun i e v b hi hv => h.V i e v b hi (hV i e v hi hv), fun b hb => h.Z b (hZ b hb)⟩
/-- The general step of an operation that yields a value, memory growing. -/
theorem gr_grow (hi : ops[i]? = some o) (hd : o.dst = some d) (hn : Nat.blt d c.n = true) (hg : gOk ops F o.guard = some true) (hm : oOk m st = true) {H' : Hp} {S' : Sp}
    (hr : ∀ E a w, Fits E w F a → Sat c.w0 c.X E H S w → ∃ E' w' u, (execOp a.eval o).run c.P w = .ok (.value u) w' ∧ C E' w' r u ∧ Fits E' w' F a ∧ Sat c.w0 c.X E' H' S' w' ∧ (∀ s, Inv s E w → s.n1 ≤ H.length → s.S1.length ≤ S.length → Inv s E' w'))
    (hn1 : ∀ s, st = some s → s.n1 ≤ H.length) (hm1 : ∀ s, st = some s → s.S1.length ≤ S.length)
    (h : GR c ops k q st sch ((d, r) :: F) H' S') : GR c ops k q st ((i, m) :: sch) F H S := by
  intro E a w h1 h2 h3 h4 h5
  obtain ⟨E', w', u, k1, k2, k3, k4, k5⟩ := hr E a w h3 h4
  have h5' : ∀ s, st = some s → q = some s ∧ Inv s E' w' := fun s hs => ⟨(h5 s hs).1, k5 s (h5 s hs).2 (hn1 s hs) (hm1 s hs)⟩
  refine seq_value hi (gOk_ok (o := o) h3 hg) k1 ?_ ?_
  · cases m with
    | o => cases st with
      | none => cases hm
      | some s => exact .inl ⟨rfl, sx_of h5' rfl⟩
    | l => exact .inr rfl
    | _ => cases st <;> cases hm
  · rw [hd]
    refine h E' _ w' ?_ ?_ (k3.put k2 (by rw [h1]; exact hn)) k4 h5'
    · rw [(put_size _ _ _).1]; exact h1
    · rw [(put_size _ _ _).2]; exact h2
def stLe (st : Option St) (n m : Nat) : Bool := match st with
  | none => true
  | some s => Nat.ble s.n1 n && Nat.ble s.S1.length m
theorem stLe_ok {n m : Nat} (h : stLe st n m = true) : (∀ s, st = some s → s.n1 ≤ n) ∧ (∀ s, st = some s → s.S1.length ≤ m) := by
  cases st with
  | none => exact ⟨fun s hs => (by cases hs), fun s hs => (by cases hs)⟩
  | some s =>
    unfold stLe at h
    simp only [Bool.and_eq_true] at h
    exact ⟨fun s' hs => by cases hs; exact Nat.le_of_ble_eq_true h.1, fun s' hs => by cases hs; exact Nat.le_of_ble_eq_true h.2⟩
theorem new_block (h3 : Fits E w F a) (h4 : Sat c.w0 c.X E H S w) {t : TypeId} {cs : List AV} {us : List Value} (hc : CL E w cs us) (h1 : ∀ z ∈ us, z.oneCell' = true) :
    ∃ E', C E' { w with heap := w.heap.push (.cells (List.toArray us) t (0, 0)) } (.box H.length 0) (.pointer (some ⟨w.heap.size, 0, none⟩)) ∧ Fits E' { w with heap := w.heap.push (.cells (List.toArray us) t (0, 0)) } F a ∧
      Sat c.w0 c.X E' (H ++ [some (t, cs)]) S { w with heap := w.heap.push (.cells (List.toArray us) t (0, 0)) } ∧ (∀ s, Inv s E w → s.n1 ≤ H.length → s.S1.length ≤ S.length → Inv s E' { w with heap := w.heap.push (.cells (List.toArray us) t (0, 0)) }) := by
  have hs := stays_push E H S w (.cells (List.toArray us) t (0, 0))
  refine ⟨{ E with B := E.B ++ [w.heap.size] }, ?_, h3.mono (le_B E _) (fun b hb => hs.block b (h4.Z b hb)), h4.new hc h1, fun s inv hn _ => ?_⟩
  · unfold C
    exact ⟨w.heap.size, by simp [← h4.lB], rfl⟩
  · refine inv.grow hs.size hs.block (fun i b hi hb => ?_) (fun _ _ _ _ hv => hv) (fun _ hz => hz)
    have hl : i < E.B.length := by rw [h4.lB]; omega
    have hb' : (E.B ++ [w.heap.size])[i]? = some b := hb
    rwa [List.getElem?_append_left hl] at hb'
theorem r_box {t : TypeId} {x : Operand} {v : AV} {cs : List AV} (hi : ops[i]? = some o) (hop : o.op = .box t x) (hd : o.dst = some d) (hn : Nat.blt d c.n = true) (hg : gOk ops F o.guard = some true) (hm : oOk m st = true) (hst : stLe st H.length S.length = true)
    (hx : ev F x = some v) (hv : cellsA v = some cs) (h : GR c ops k q st sch ((d, .box H.length 0) :: F) (H ++ [some (t, cs)]) S) : GR c ops k q st ((i, m) :: sch) F H S := by
  refine gr_grow hi hd hn hg hm (fun E a w h3 h4 => ?_) (stLe_ok hst).1 (stLe_ok hst).2 h
  obtain ⟨us, k1, k2, k3⟩ := cellsA_ok hv (h3.ev hx)
  obtain ⟨E', m1, m2, m3, m4⟩ := new_block (t := t) h3 h4 k2 k3
  refine ⟨E', _, _, ?_, m1, m2, m3, m4⟩
  unfold execOp
  simp [hop, Instr.box, newVar, newRow, k1]
theorem r_alloc {t : TypeId} {y : Ty} (hT : TabOk c.P c.T) (hi : ops[i]? = some o) (hop : o.op = .alloc t) (hd : o.dst = some d) (hn : Nat.blt d c.n = true) (hg : gOk ops F o.guard = some true) (hm : oOk m st = true) (hst : stLe st H.length S.length = true)
    (hy : c.T.get t = some y) (hz : allOne y.zero = true) (h : GR c ops k q st sch ((d, .box H.length 0) :: F) (H ++ [some (t, raw y.zero)]) S) : GR c ops k q st ((i, m) :: sch) F H S := by
  refine gr_grow hi hd hn hg hm (fun E a w h3 h4 => ?_) (stLe_ok hst).1 (stLe_ok hst).2 h
  obtain ⟨ti, z, hti, _, _, hz0, hzc⟩ := tyOf_zero (hT t y hy)
  obtain ⟨E', m1, m2, m3, m4⟩ := new_block (t := t) h3 h4 (raw_CL hz) (allOne_mem hz)
  refine ⟨E', _, _, ?_, m1, m2, m3, m4⟩
  have hzc' : z.cells = List.toArray y.zero := by rw [← hzc]
  unfold execOp
  simp [hop, Instr.alloc, newVar, newRow, run_zero_ hti hz0, hzc']
/-! ### a store -/
theorem cells_size (v : Value) : v.cells.size = v.cells.toList.length := by simp
theorem setCell_same {b off : Nat} {v : Value} {us : List Value} {t : TypeId} (h : w.heap[b]? = some (.cells (List.toArray us) t (0, 0))) : (w.setCell ⟨b, off, none⟩ v).heap[b]? = some (.cells (List.toArray (us.set off v)) t (0, 0)) := by
  simp [World.setCell, Array.getElem?_modify, h]
theorem setCell_other {b off k : Nat} {v : Value} (h : k ≠ b) : (w.setCell ⟨b, off, none⟩ v).heap[k]? = w.heap[k]? := by
  simp [World.setCell, Array.getElem?_modify, Ne.symm h]
theorem setCell_size {p : Addr} {v : Value} : (w.setCell p v).heap.size = w.heap.size := by simp [World.setCell]
def setV : List Value → Nat → List Value → List Value
  | us, _, [] => us
  | us, off, v :: vs => setV (us.set off v) (off + 1) vs
theorem setV_length : ∀ (vs us : List Value) (off : Nat), (setV us off vs).length = us.length
  | [], us, off => rfl
  | v :: vs, us, off => by unfold setV; rw [setV_length vs]; simp
theorem CL_setFrom : ∀ {ds cs : List AV} {us vs : List Value} {off : Nat}, CL E w cs us → CL E w ds vs → CL E w (setFrom cs off ds) (setV us off vs)
  | [], cs, us, vs, off, h, h' => by unfold CL at h'; subst h'; exact h
  | x :: ds, cs, us, vs, off, h, h' => by
    unfold CL at h'
    obtain ⟨u, r, rfl, h2, h3⟩ := h'
    unfold setFrom setV
    exact CL_setFrom (CL_set h off h2) h3
theorem setV_one : ∀ {vs us : List Value} {off : Nat}, (∀ z ∈ us, z.oneCell' = true) → (∀ z ∈ vs, z.oneCell' = true) → ∀ z ∈ setV us off vs, z.oneCell' = true
  | [], us, off, h, _ => h
  | v :: vs, us, off, h, h' => by
    unfold setV
    refine setV_one (fun z hz => ?_) (fun z hz => h' z (by simp [hz]))
    rcases List.mem_or_eq_of_mem_set hz with hz | rfl
    · exact h z hz
    · exact h' z (by simp)
/-- Cells stored one behind the other. -/
theorem run_storeCells {t : TypeId} : ∀ (vs : List Value) (w : World) (b o j : Nat) (us : List Value), w.heap[b]? = some (.cells (List.toArray us) t (0, 0)) → (∀ z ∈ vs, z.oneCell' = true) → o + j + vs.length ≤ us.length →
    ∃ w', (storeCells ⟨b, o, none⟩ vs j).run P w = .ok () w' ∧ w'.heap[b]? = some (.cells (List.toArray (setV us (o + j) vs)) t (0, 0)) ∧ (∀ k, k ≠ b → w'.heap[k]? = w.heap[k]?) ∧ w'.heap.size = w.heap.size ∧ w'.os = w.os ∧ w'.tape = w.tape ∧ w'.output = w.output
  | [], w, b, o, j, us, h, _, _ => ⟨w, by unfold storeCells; rfl, by unfold setV; exact h, fun _ _ => rfl, rfl, rfl, rfl, rfl⟩
  | v :: vs, w, b, o, j, us, h, h1, hl => by
    have ha : (⟨b, o, none⟩ : Addr).add j = ⟨b, o + j, none⟩ := by
      unfold Addr.add
      split
      · rename_i hj; subst hj; rfl
      · rfl
    have hlt : o + j < us.length := by simp at hl; omega
    have hc : w.cell? ⟨b, o + j, none⟩ = some us[o + j] := cells_of_block h (List.getElem?_eq_getElem hlt)
    have hf : w.frozen? ⟨b, o + j, none⟩ = false := by simp [World.frozen?, h]
    obtain ⟨w', k1, k2, k3, k4, k5, k6, k7⟩ := run_storeCells vs (w.setCell ⟨b, o + j, none⟩ v) b o (j + 1) (us.set (o + j) v) (setCell_same h) (fun z hz => h1 z (by simp [hz])) (by simp at hl ⊢; omega)
    refine ⟨w', ?_, ?_, fun k hk => (k3 k hk).trans (setCell_other hk), k4.trans setCell_size, k5, k6, k7⟩
    · unfold storeCells
      rw [ha, Sem.run_bind, run_store _ _ _ _ _ (h1 v (by simp)), hc]
      simp only [hf]
      exact k1
    · unfold setV
      rw [show o + j + 1 = o + (j + 1) from by omega]
      exact k2
theorem run_storeVar {t u : TypeId} {y : Ty} (hy : tyOf P t = some y) {b o : Nat} {us vs : List Value} {v : Value} (h : w.heap[b]? = some (.cells (List.toArray us) u (0, 0))) (hv : v.cells = List.toArray vs) (hl : vs.length = y.size) (h1 : ∀ z ∈ vs, z.oneCell' = true) (hle : o + y.size ≤ us.length) :
    ∃ w', (storeVar t ⟨b, o, none⟩ v).run P w = .ok () w' ∧ w'.heap[b]? = some (.cells (List.toArray (setV us o vs)) u (0, 0)) ∧ (∀ k, k ≠ b → w'.heap[k]? = w.heap[k]?) ∧ w'.heap.size = w.heap.size ∧ w'.os = w.os ∧ w'.tape = w.tape ∧ w'.output = w.output := by
  obtain ⟨i, z, hi, hs, _⟩ := tyOf_zero hy
  obtain ⟨w', k⟩ := run_storeCells (P := P) vs w b o 0 us h h1 (by simp; omega)
  refine ⟨w', ?_, by simpa using k.2⟩
  unfold storeVar
  have hsz : ¬ (v.cells.size ≠ i.size) := by rw [hv, hs]; simp [hl]
  simp only [Sem.run_bind, run_sizeOf_ hi, Result.andThen_ok, if_neg hsz]
  rw [hv]
  simpa using k.1
theorem r_store {t : TypeId} {y : Ty} {x z : Operand} {j off : Nat} {v : AV} {u : TypeId} {cs ds : List AV} (hT : TabOk c.P c.T) (hi : ops[i]? = some o) (hop : o.op = .store t x z) (hd : o.dst = none) (hg : gOk ops F o.guard = some true)
    (hx : ev F x = some (.box j off)) (hz : ev F z = some v) (hv : cellsA v = some ds) (hy : c.T.get t = some y) (hH : H[j]? = some (some (u, cs))) (hl : (Nat.beq ds.length y.size && Nat.ble (off + y.size) cs.length) = true)
    (h : GR c ops k q none sch F (H.set j (some (u, setFrom cs off ds))) S) : GR c ops k q st ((i, .l) :: sch) F H S := by
  intro E a w h1 h2 h3 h4 h5
  rw [Bool.and_eq_true] at hl
  have hl1 : ds.length = y.size := Nat.eq_of_beq_eq_true hl.1
  have hl2 := Nat.le_of_ble_eq_true hl.2
  obtain ⟨vs, e1, e2, e3⟩ := cellsA_ok hv (h3.ev hz)
  obtain ⟨b, us, k1, k2, k3, k4⟩ := h4.box j _ cs hH
  have hp := h3.ev hx
  unfold C at hp
  obtain ⟨b', hb', hpv⟩ := hp
  rw [k1] at hb'; cases hb'
  obtain ⟨w', m1, m2, m3, m4, m5, m6, m7⟩ := run_storeVar (hT t y hy) (o := off) k2 e1 ((CL_length e2).trans hl1) e3 (by rw [CL_length k3]; omega)
  have hsat := h4.upd (w' := w') hH k1 m4 m2 m3 m5 m6 m7 (CL_setFrom k3 e2) (setV_one k4 e3)
  refine seq_skip hi (gOk_ok (o := o) h3 hg) (w' := w') ?_ (.inr rfl) ?_
  · unfold execOp
    simp only [hop, hpv, Instr.storeAt, Instr.sureAddr, pure_bind, Sem.run_bind, m1, Result.andThen_ok, Sem.run_pure]
  · rw [hd]
    exact h E a w' h1 h2 (h3.mono (Env.le_refl E) (fun b hb => m3 b (fun e => (h4.bB j _ k1).2.2 (e ▸ hb)))) hsat (fun s hs => by cases hs)
end
end Go.Proofs.Ytnenbopcoghmaaa.Kw
namespace Go.Proofs.Ytnenbopcoghmaaa.Kw
open Go
/-! ### forms of what is handed over -/
mutual
def freeA : AV → Bool
  | .r _ => true
  | .agg cs => freeL cs
  | .tup cs => freeL cs
  | .fn _ cs => freeL cs
  | _ => false
def freeL : List AV → Bool
  | [] => true
  | c :: cs => freeA c && freeL cs
end
mutual
def plainA : AV → Bool
  | .r (.v _) => true
  | .sl _ => true
  | .agg cs => plainL cs
  | .tup cs => plainL cs
  | _ => false
def plainL : List AV → Bool
  | [] => true
  | c :: cs => plainA c && plainL cs
end
def PlainS (S : Sp) : Prop := ∀ e ∈ S, ∀ s : SE, e = some s → ∀ row ∈ s.L, ∀ x ∈ row, ∃ v, x = RV.v v
theorem PlainS.nil : PlainS [] := fun _ h => by cases h
mutual
def shA (n : Nat) : AV → AV
  | .sl k => .sl (n + k)
  | .el k z i o => .el (n + k) z i o
  | .agg cs => .agg (shL n cs)
  | .tup cs => .tup (shL n cs)
  | .r x => .r x
  | .box i o => .box i o
  | .fn f cs => .fn f (shL n cs)
  | .junk => .junk
def shL (n : Nat) : List AV → List AV
  | [] => []
  | c :: cs => shA n c :: shL n cs
end
section
variable {E E1 : Env} {w : World} {B : List Nat} {V : List Value} {Z Z' : Nat → Prop}
mutual
theorem C_free (hZ : ∀ b, E.Z b → Z b) : ∀ (x : AV) (u : Value), freeA x = true → C E w x u → C ⟨B, V, Z⟩ w x u
  | .r x, u, _, h => by unfold C at h ⊢; exact CR_mono hZ (fun _ _ => rfl) x u h
  | .agg cs, u, hf, h => by unfold C at h ⊢; obtain ⟨us, h1, h2, h3⟩ := h; exact ⟨us, h1, CL_free hZ cs us hf h2, h3⟩
  | .tup cs, u, hf, h => by unfold C at h ⊢; obtain ⟨us, h1, h2⟩ := h; exact ⟨us, h1, CL_free hZ cs us hf h2⟩
  | .fn f cs, u, hf, h => by unfold C at h ⊢; obtain ⟨us, h1, h2⟩ := h; exact ⟨us, h1, CL_free hZ cs us hf h2⟩
  | .box _ _, _, hf, _ => by cases hf
  | .sl _, _, hf, _ => by cases hf
  | .el _ _ _ _, _, hf, _ => by cases hf
  | .junk, _, hf, _ => by cases hf
theorem CL_free (hZ : ∀ b, E.Z b → Z b) : ∀ (xs : List AV) (us : List Value), freeL xs = true → CL E w xs us → CL ⟨B, V, Z⟩ w xs us
  | [], us, _, h => by unfold CL at h ⊢; exact h
  | c :: cs, us, hf, h => by
    unfold freeL at hf
    rw [Bool.and_eq_true] at hf
    unfold CL at h ⊢
    obtain ⟨u, r, h1, h2, h3⟩ := h
    exact ⟨u, r, h1, C_free hZ c u hf.1 h2, CL_free hZ cs r hf.2 h3⟩
end
theorem get_app {α : Type} {l m : List α} {k : Nat} : (l ++ m)[l.length + k]? = m[k]? := by
  rw [List.getElem?_append_right (by omega)]
  congr 1
  omega
mutual
/-- A plain answer, its slices numbered behind those that were. -/
theorem C_sh : ∀ (x : AV) (u : Value), plainA x = true → C E1 w x u → C ⟨B, V ++ E1.V, Z⟩ w (shA V.length x) u
  | .r (.v x), u, _, h => by unfold shA C CR; unfold C CR at h; exact h
  | .r (.ro _), _, hf, _ => by cases hf
  | .r (.rs _ _), _, hf, _ => by cases hf
  | .agg cs, u, hf, h => by unfold shA C; unfold C at h; obtain ⟨us, h1, h2, h3⟩ := h; exact ⟨us, h1, CL_sh cs us hf h2, h3⟩
  | .tup cs, u, hf, h => by unfold shA C; unfold C at h; obtain ⟨us, h1, h2⟩ := h; exact ⟨us, h1, CL_sh cs us hf h2⟩
  | .sl k, u, _, h => by unfold shA C; unfold C at h; exact ⟨get_app.trans h.1, h.2⟩
  | .fn _ _, _, hf, _ => by cases hf
  | .box _ _, _, hf, _ => by cases hf
  | .el _ _ _ _, _, hf, _ => by cases hf
  | .junk, _, hf, _ => by cases hf
theorem CL_sh : ∀ (xs : List AV) (us : List Value), plainL xs = true → CL E1 w xs us → CL ⟨B, V ++ E1.V, Z⟩ w (shL V.length xs) us
  | [], us, _, h => by unfold shL CL; unfold CL at h; exact h
  | c :: cs, us, hf, h => by
    unfold plainL at hf
    rw [Bool.and_eq_true] at hf
    unfold shL CL
    unfold CL at h
    obtain ⟨u, r, h1, h2, h3⟩ := h
    exact ⟨u, r, h1, C_sh c u hf.1 h2, CL_sh cs r hf.2 h3⟩
end
theorem RL_plain : ∀ {xs : List RV} {us : List Value}, (∀ x ∈ xs, ∃ v, x = RV.v v) → RL Z w xs us → RL Z' w xs us
  | [], us, _, h => by unfold RL at h ⊢; exact h
  | x :: xs, us, hp, h => by
    unfold RL at h ⊢
    obtain ⟨u, r, h1, h2, h3⟩ := h
    obtain ⟨v, rfl⟩ := hp x (by simp)
    exact ⟨u, r, h1, by unfold CR at h2 ⊢; exact h2, RL_plain (fun y hy => hp y (by simp [hy])) h3⟩
theorem Rows_plain {sz : Nat} : ∀ {L : List (List RV)} {us : List Value}, (∀ row ∈ L, ∀ x ∈ row, ∃ v, x = RV.v v) → Rows Z w sz L us → Rows Z' w sz L us
  | [], us, _, h => by unfold Rows at h ⊢; exact h
  | r :: L, us, hp, h => by
    unfold Rows at h ⊢
    obtain ⟨a, b, h1, h2, h3, h4⟩ := h
    exact ⟨a, b, h1, h2, RL_plain (hp r (by simp)) h3, Rows_plain (fun row hr => hp row (by simp [hr])) h4⟩
end
/-- What a call has made joins what was. -/
theorem Sat.join {w0 w w' : World} {X X1 : Org} {E E1 : Env} {H : Hp} {S S1 : Sp} (h : Sat w0 X E H S w) (h1 : Sat w X1 E1 [] S1 w') (hX : ∀ b, ¬ X1.X b) {Z' : Nat → Prop} (hZ : ∀ b, E.Z b → Z' b) (hZ' : ∀ b, Z' b → E.Z b ∨ (w.heap.size ≤ b ∧ E1.Z b))
    (hr : ∀ (k : Nat) (e : SE), S1[k]? = some (some e) → ∀ cs, Rows E1.Z w' e.sz e.L cs → Rows Z' w' e.sz e.L cs) : Sat w0 X ⟨E.B, E.V ++ E1.V, Z'⟩ H (S ++ S1) w' := by
  have hst : Stays E H S w w' := ⟨h1.size, fun b hb => h1.old b hb (hX b), h1.os, h1.tape, h1.output⟩
  have h' := h.stays hst
  have hle : E.le ⟨E.B, E.V ++ E1.V, Z'⟩ := ⟨fun _ _ h => h, fun i v hv => by
    show (E.V ++ E1.V)[i]? = some v
    rw [List.getElem?_append_left (List.getElem?_eq_some_iff.1 hv).1]; exact hv, hZ⟩
  have fresh : ∀ (k : Nat) (e : SE) (v : Value) (b : Nat), S1[k]? = some (some e) → E1.V[k]? = some v → v.ownBlock = some b → w.heap.size ≤ b ∧ ¬ E1.Z b := by
    intro k e v b hk hv hb
    obtain ⟨h2, h3⟩ := h1.bV k e v b hk hv hb
    exact ⟨h2.resolve_right (hX b), h3⟩
  have lt : ∀ (j : Nat) (ej : SE) (uj : Value), S[j]? = some (some ej) → E.V[j]? = some uj → ∀ x, uj.ownBlock = some x → x < w.heap.size := by
    intro j ej uj hj huj x hx
    obtain ⟨u', ds, k1, k2, k3⟩ := h.sl j ej hj
    rw [huj] at k1; cases k1
    exact own_block_lt k2 x hx
  -- a slice is one of the old or one of the new
  have part : ∀ (k : Nat) (e : SE), (S ++ S1)[k]? = some (some e) → (S[k]? = some (some e) ∧ ∀ v, (E.V ++ E1.V)[k]? = some v → E.V[k]? = some v) ∨ ∃ j, k = S.length + j ∧ S1[j]? = some (some e) ∧ ∀ v, (E.V ++ E1.V)[k]? = some v → E1.V[j]? = some v := by
    intro k e hk
    rcases Nat.lt_or_ge k S.length with hl | hl
    · left
      rw [List.getElem?_append_left hl] at hk
      exact ⟨hk, fun v hv => by rwa [List.getElem?_append_left (by rw [h.lV]; exact hl)] at hv⟩
    · right
      obtain ⟨j, rfl⟩ := Nat.exists_eq_add_of_le hl
      rw [get_app] at hk
      refine ⟨j, rfl, hk, fun v hv => ?_⟩
      rw [← h.lV, get_app] at hv
      exact hv
  refine ⟨h'.lB, by simp [h.lV, h1.lV], ?_, ?_, ?_, ?_, h'.BB, ?_, ?_, ?_, h'.old, h'.size, h'.os, h'.tape, h'.output, ?_, fun b hb => hZ b (h.zup b hb)⟩
  · intro i t ds hi
    obtain ⟨b, us, k1, k2, k3, k4⟩ := h'.box i t ds hi
    exact ⟨b, us, k1, k2, CL_ext hle k3, k4⟩
  · intro k e hk
    rcases part k e hk with ⟨hk, hv⟩ | ⟨j, rfl, hj, hv⟩
    · obtain ⟨u, ds, k1, k2, k3⟩ := h'.sl k e hk
      exact ⟨u, ds, hle.V k u k1, k2, Rows_mono hZ (fun _ _ => rfl) k3⟩
    · obtain ⟨u, ds, k1, k2, k3⟩ := h1.sl j e hj
      refine ⟨u, ds, ?_, k2, hr j e hj ds k3⟩
      show (E.V ++ E1.V)[S.length + j]? = some u
      rw [← h.lV, get_app]; exact k1
  · intro i b hi
    obtain ⟨k1, k2, k3⟩ := h'.bB i b hi
    exact ⟨k1, k2, fun hz => by
      rcases hZ' b hz with hz | ⟨hz, _⟩
      · exact k3 hz
      · have := (h.bB i b hi).1; omega⟩
  · intro k e v b hk hv hb
    rcases part k e hk with ⟨hk, hvv⟩ | ⟨j, rfl, hj, hvv⟩
    · obtain ⟨k2, k3⟩ := h.bV k e v b hk (hvv v hv) hb
      exact ⟨k2, fun hz => by
        rcases hZ' b hz with hz | ⟨hz, _⟩
        · exact k3 hz
        · have := lt k e v hk (hvv v hv) b hb; omega⟩
    · obtain ⟨k2, k3⟩ := fresh j e v b hj (hvv v hv) hb
      exact ⟨.inl (Nat.le_trans h.size k2), fun hz => by
        rcases hZ' b hz with hz | ⟨_, hz⟩
        · have := h.Z b hz; omega
        · exact k3 hz⟩
  · intro i k e v b hi hk hv hb
    rcases part k e hk with ⟨hk, hvv⟩ | ⟨j, rfl, hj, hvv⟩
    · exact h.BV i k e v b hi hk (hvv v hv) hb
    · have := (fresh j e v b hj (hvv v hv) hb).1
      have := (h.bB i b hi).1
      omega
  · intro k l e1 e2 v1 v2 b hk hl hv1 hv2 hb1 hb2
    rcases part k e1 hk with ⟨hk, hvk⟩ | ⟨j, rfl, hj, hvk⟩ <;> rcases part l e2 hl with ⟨hl, hvl⟩ | ⟨j', rfl, hj', hvl⟩
    · exact h.VV k l e1 e2 v1 v2 b hk hl (hvk _ hv1) (hvl _ hv2) hb1 hb2
    · have := lt k e1 v1 hk (hvk _ hv1) b hb1
      have := (fresh j' e2 v2 b hj' (hvl _ hv2) hb2).1
      omega
    · have := lt l e2 v2 hl (hvl _ hv2) b hb2
      have := (fresh j e1 v1 b hj (hvk _ hv1) hb1).1
      omega
    · rw [h1.VV j j' e1 e2 v1 v2 b hj hj' (hvk _ hv1) (hvl _ hv2) hb1 hb2]
  · intro b hb
    rcases hZ' b hb with hb | ⟨_, hb⟩
    · exact h'.Z b hb
    · exact h1.Z b hb
  · intro b hb
    rcases hZ' b hb with hb | ⟨hb, _⟩
    · exact h.zin b hb
    · exact .inr (Nat.le_trans h.size hb)

/-- THE CONTRACT OF A FUNCTION THAT WRITES NOTHING THAT IT WAS HANDED: it answers r, and has made S. -/
def RetR (w : World) (Z : Nat → Prop) (Post : AV → Sp → Prop) : Ending → World → Prop := fun e w' =>
  ∃ u r S E, e = .returned u ∧ Post r S ∧ C E w' r u ∧ Sat w ⟨fun _ => False, Z⟩ E [] S w'
def FnR (P : Program) (g : FuncId) (args : List AV) (Post : AV → Sp → Prop) : Prop :=
  ∀ (w : World) (Z : Nat → Prop) (us : List Value), (∀ b, Z b → b < w.heap.size) → CL ⟨[], [], Z⟩ w args us → Calls P g (List.toArray us) w (RetR w Z Post)
theorem FnR.mono {P : Program} {g : FuncId} {args : List AV} {Post Post' : AV → Sp → Prop} (h : FnR P g args Post) (hp : ∀ r S, Post r S → Post' r S) : FnR P g args Post' :=
  fun w Z us hz hc => (h w Z us hz hc).mono fun _ _ ⟨u, r, S, E, h1, h2, h3, h4⟩ => ⟨u, r, S, E, h1, hp r S h2, h3, h4⟩
def argsF : Nat → List AV → Fr
  | _, [] => []
  | n, x :: xs => (n, x) :: argsF (n + 1) xs
theorem argsF_get : ∀ {xs : List AV} {n d : Nat} {x : AV}, Fr.get (argsF n xs) d = some x → n ≤ d ∧ xs[d - n]? = some x
  | [], n, d, x, h => by simp [argsF, Fr.get] at h
  | y :: ys, n, d, x, h => by
    unfold argsF Fr.get at h
    cases hb : Nat.beq n d with
    | true =>
      rw [hb] at h
      have : n = d := Nat.eq_of_beq_eq_true hb
      subst this
      simp at h
      exact ⟨Nat.le_refl _, by simp [h]⟩
    | false =>
      rw [hb] at h
      obtain ⟨h1, h2⟩ := argsF_get h
      refine ⟨by omega, ?_⟩
      rw [show d - n = (d - (n + 1)) + 1 from by omega]
      simpa using h2
theorem fits_args {E : Env} {w : World} {xs : List AV} {us : List Value} {n : Nat} (h : CL E w xs us) : Fits E w (argsF 0 xs) { tmps := List.toArray us ++ Array.replicate n undef, defers := [] } := by
  refine ⟨fun d x hx => ?_⟩
  obtain ⟨_, h2⟩ := argsF_get hx
  simp at h2
  obtain ⟨u, h3, h4⟩ := CL_get h h2
  refine ⟨u, ?_, h4⟩
  have hl := (List.getElem?_eq_some_iff.1 h3).1
  rw [Array.getElem?_append_left (by simpa using hl)]
  simpa using h3
theorem Sat.init (w : World) (Z : Nat → Prop) (hz : ∀ b, Z b → b < w.heap.size) : Sat w ⟨fun _ => False, Z⟩ ⟨[], [], Z⟩ [] [] w where
  lB := rfl
  lV := rfl
  box := fun i t cs h => by simp at h
  sl := fun k e h => by simp at h
  bB := fun i b h => by simp at h
  bV := fun k e v b h => by simp at h
  BB := fun i j b h => by simp at h
  BV := fun i k e v b h => by simp at h
  VV := fun k l e e' v v' b h => by simp at h
  Z := hz
  old := fun _ _ _ => rfl
  size := Nat.le_refl _
  os := rfl
  tape := rfl
  output := rfl
  zin := fun b hb => .inl hb
  zup := fun b hb => hb
theorem fnR_intro {P : Program} {T : Tab} {g : FuncId} {fn : Func} {n : Nat} {code : Code} {args : List AV} {Post : AV → Sp → Prop} (hf : P.funcs[g]? = some fn) (hb : fn.body = some code) (hn : fn.ntmps = n) (hl : Nat.ble args.length n = true)
    (h : ∀ w Z, GI ⟨P, T, g, fn, n, w, ⟨fun _ => False, Z⟩, RetR w Z Post⟩ [.code code] (argsF 0 args) [] []) : FnR P g args Post := by
  intro w Z us hz hc
  refine calls_of_reach (c := ⟨P, T, g, fn, n, w, ⟨fun _ => False, Z⟩, RetR w Z Post⟩) hf hb ?_
  have hul := CL_length hc
  have hl' := Nat.le_of_ble_eq_true hl
  refine h w Z ⟨[], [], Z⟩ _ w ?_ rfl ?_ (Sat.init w Z hz)
  · simp [hn, hul]; omega
  · exact fits_args hc
end Go.Proofs.Ytnenbopcoghmaaa.Kw
namespace Go.Proofs.Ytnenbopcoghmaaa.Kw
open Go
def viewA (S : Sp) : AV → Option AV
  | .sl k => match S[k]? with
    | some (some e) => some (.r (.rs e.sz e.L))
    | _ => none
  | x => match freeA x with
    | true => some x
    | false => none
def viewL (S : Sp) : List AV → Option (List AV)
  | [] => some []
  | x :: xs => match viewA S x, viewL S xs with
    | some y, some ys => some (y :: ys)
    | _, _ => none
section
variable {c : Ctx} {ops : Array Oper} {k : List Item} {q st : Option St} {i : Nat} {m : Md} {sch : List (Nat × Md)} {F : Fr} {H : Hp} {S : Sp} {o : Oper} {d : Nat} {r : AV} {E E' : Env} {a : Act} {w w' : World} {P : Program} {w0 : World} {X : Org}
theorem RL_CAt {Z : Nat → Prop} {b : Nat} : ∀ {xs : List RV} {us : List Value} {o : Nat}, RL Z w xs us → (∀ (j : Nat) (u : Value), us[j]? = some u → w.cell? ⟨b, o + j, none⟩ = some u) → CAt Z w xs b o
  | [], us, o, _, _ => by unfold CAt; trivial
  | x :: xs, us, o, h, hc => by
    unfold RL at h
    obtain ⟨u, r, rfl, h2, h3⟩ := h
    unfold CAt
    refine ⟨⟨u, by simpa using hc 0 u (by simp), h2⟩, RL_CAt h3 (fun j v hv => ?_)⟩
    rw [show o + 1 + j = o + (j + 1) from by omega]
    exact hc (j + 1) v (by simpa using hv)
theorem Rows_CRows {Z : Nat → Prop} {b sz : Nat} : ∀ {L : List (List RV)} {us : List Value} {o : Nat}, Rows Z w sz L us → (∀ (j : Nat) (u : Value), us[j]? = some u → w.cell? ⟨b, o + j, none⟩ = some u) → CRows Z w sz L b o
  | [], us, o, _, _ => by unfold CRows; trivial
  | r :: L, us, o, h, hc => by
    unfold Rows at h
    obtain ⟨x, y, rfl, h2, h3, h4⟩ := h
    have hl := RL_length h3
    unfold CRows
    refine ⟨h2, RL_CAt h3 (fun j u hu => hc j u (by rw [List.getElem?_append_left (List.getElem?_eq_some_iff.1 hu).1]; exact hu)), Rows_CRows h4 (fun j u hu => ?_)⟩
    rw [show o + sz + j = o + (x.length + j) from by omega]
    exact hc (x.length + j) u (by rw [get_app]; exact hu)
theorem own_cells {base : Nat} {e : TypeId} {size n : Nat} {v : Value} {xs : List Value} (h : w.ownsRow base e size v n xs) : (v = .slice none 0 0 ∧ n = 0) ∨ ∃ b cap, v = .slice (some ⟨b, 0, none⟩) n cap ∧ n ≤ cap ∧ cap ≤ maxLen ∧ b < w.heap.size ∧ ∀ (j : Nat) (u : Value), xs[j]? = some u → w.cell? ⟨b, j, none⟩ = some u := by
  obtain ⟨h1, h2⟩ := h
  rcases h2 with h2 | ⟨g, cap, cur, rfl, hg, hh, h3, h4, h5, h6⟩
  · exact .inl h2
  · refine .inr ⟨g, cap, rfl, h3, h4, (Array.getElem?_eq_some_iff.1 hh).1, fun j u hu => ?_⟩
    subst h6
    rw [List.getElem?_take] at hu
    split at hu
    · simp [World.cell?, hh]; simpa using hu
    · cases hu
theorem view_ok (h : Sat w0 X E H S w) {x y : AV} {u : Value} (hv : viewA S x = some y) (hx : C E w x u) : C ⟨[], [], fun b => b < w.heap.size⟩ w y u := by
  have free : ∀ z, freeA z = true → C E w z u → C ⟨[], [], fun b => b < w.heap.size⟩ w z u := fun z hf hz => C_free h.Z z u hf hz
  cases x with
  | sl k =>
    simp only [viewA] at hv
    split at hv
    · rename_i e he
      cases hv
      obtain ⟨v, cs, h1, h2, h3⟩ := h.sl k e he
      unfold C at hx
      rw [h1] at hx
      have := hx.1
      cases this
      have h3' := Rows_mono (Z' := fun b => b < w.heap.size) h.Z (fun _ _ => rfl) h3
      unfold C CR
      rcases own_cells h2 with ⟨rfl, h5⟩ | ⟨b, cap, rfl, h5, h6, h7, h8⟩
      · have : e.L = [] := List.eq_nil_of_length_eq_zero h5
        exact ⟨none, 0, by rw [this]; rfl, by rw [this]; simp, by simp [maxLen], .inl this⟩
      · exact ⟨_, cap, rfl, h5, h6, .inr ⟨b, 0, rfl, h7, Rows_CRows h3' (fun j u hu => by rw [Nat.zero_add]; exact h8 j u hu)⟩⟩
    · cases hv
  | r rv => simp only [viewA, freeA] at hv; cases hv; exact free _ rfl hx
  | box i o => simp [viewA, freeA] at hv
  | el k z i o => simp [viewA, freeA] at hv
  | agg cs =>
    simp only [viewA] at hv
    split at hv
    · rename_i hf; cases hv; exact free _ hf hx
    · cases hv
  | tup cs =>
    simp only [viewA] at hv
    split at hv
    · rename_i hf; cases hv; exact free _ hf hx
    · cases hv
  | fn f cs =>
    simp only [viewA] at hv
    split at hv
    · rename_i hf; cases hv; exact free _ hf hx
    · cases hv
  | junk => simp [viewA, freeA] at hv
theorem viewL_ok (h : Sat w0 X E H S w) : ∀ {xs ys : List AV} {us : List Value}, viewL S xs = some ys → CL E w xs us → CL ⟨[], [], fun b => b < w.heap.size⟩ w ys us
  | [], ys, us, hv, hx => by cases hv; unfold CL at hx ⊢; exact hx
  | x :: xs, ys, us, hv, hx => by
    simp only [viewL] at hv
    cases h1 : viewA S x with
    | none => simp [h1] at hv
    | some y =>
      cases h2 : viewL S xs with
      | none => simp [h1, h2] at hv
      | some ys' =>
        simp only [h1, h2, Option.some.injEq] at hv
        subst hv
        unfold CL at hx ⊢
        obtain ⟨u, r, k1, k2, k3⟩ := hx
        exact ⟨u, r, k1, view_ok h h1 k2, viewL_ok h h2 k3⟩
/-- Which function a call calls, with what: a named one; a closure. -/
def target (F : Fr) (cl : Call) : Option (FuncId × List AV) := match cl.callee with
  | .value f => match ev F f with
    | some (.fn g cap) => match evs F cl.args.toList with
      | some xs => some (g, xs ++ cap)
      | none => none
    | _ => none
  | _ => none
theorem run_call {cl : Call} (hop : o.op = .call cl) (h3 : Fits E w F a) {g : FuncId} {xs : List AV} (ht : target F cl = some (g, xs)) {fn : Func} (hf : P.funcs[g]? = some fn) (hnm : (fn.name == "runtime.NumGoroutine") = false) (hb : fn.body.isSome = true) :
    ∃ us, CL E w xs us ∧ (execOp a.eval o).run P w = .ok (.enter g (List.toArray us)) w := by
  unfold target at ht
  split at ht
  · rename_i f hcal
    split at ht
    · rename_i g' cap hev
      split at ht
      · rename_i ys hys
        cases ht
        have h1 := h3.ev hev
        have h2 := h3.evs hys
        unfold C at h1
        obtain ⟨us, hu, hcap⟩ := h1
        refine ⟨cl.args.toList.map a.eval ++ us, CL_append h2 hcap, ?_⟩
        have h4 : fn.name ≠ "runtime.NumGoroutine" := by simpa using hnm
        obtain ⟨c', hc'⟩ := Option.isSome_iff_exists.1 hb
        have he : (callFunc g (cl.args.map a.eval ++ List.toArray us)).run P w = .ok (.enter g (cl.args.map a.eval ++ List.toArray us)) w := by
          simp [callFunc, hf, h4, hc']
        have e2 : List.toArray (cl.args.toList.map a.eval ++ us) = cl.args.map a.eval ++ List.toArray us := by
          rw [← List.append_toArray]
          congr 1
          cases cl.args
          simp
        rw [e2]
        unfold execOp
        simp only [hop, resolve, hcal, hu, Deferred.ofValue, pure_bind, invoke, Array.empty_append]
        exact he
      · cases ht
    · cases ht
  · cases ht
/-- A CALL by a contract; the answer is plain. -/
theorem r_call {cl : Call} {g : FuncId} {xs ys : List AV} {fn : Func} {Post : AV → Sp → Prop} (spec : FnR c.P g ys Post) (hi : ops[i]? = some o) (hop : o.op = .call cl) (hd : o.dst = some d) (hn : Nat.blt d c.n = true) (hg : gOk ops F o.guard = some true) (hm : oOk m st = true) (hst : stLe st H.length S.length = true)
    (ht : target F cl = some (g, xs)) (hf : c.P.funcs[g]? = some fn) (hnm : (fn.name == "runtime.NumGoroutine") = false) (hb : fn.body.isSome = true) (hv : viewL S xs = some ys) (hp : ∀ r S1, Post r S1 → plainA r = true ∧ PlainS S1)
    (h : ∀ r S1, Post r S1 → GR c ops k q st sch ((d, shA S.length r) :: F) H (S ++ S1)) : GR c ops k q st ((i, m) :: sch) F H S := by
  intro E a w h1 h2 h3 h4 h5
  obtain ⟨us, k1, k2⟩ := run_call (P := c.P) hop h3 ht hf hnm hb
  refine seq_call hi (gOk_ok (o := o) h3 hg) k2 ((spec w (fun b => b < w.heap.size) us (fun _ h => h) (viewL_ok h4 hv k1)).mono fun e w' hh => ?_) ?_
  · obtain ⟨u, r, S1, E1, rfl, hpost, hc, hsat⟩ := hh
    obtain ⟨hpl, hps⟩ := hp r S1 hpost
    have hj := h4.join hsat (fun _ h => h) (Z' := E.Z) (fun _ h => h) (fun _ h => .inl h) (fun k e hk cs hr => Rows_plain (hps _ (List.mem_of_getElem? hk) e rfl) hr)
    have hkeep : ∀ b, b < w.heap.size → w'.heap[b]? = w.heap[b]? := fun b hb => hsat.old b hb (fun h => h)
    have hle : E.le ⟨E.B, E.V ++ E1.V, E.Z⟩ := ⟨fun _ _ h => h, fun i v hv => by
      show (E.V ++ E1.V)[i]? = some v
      rw [List.getElem?_append_left (List.getElem?_eq_some_iff.1 hv).1]; exact hv, fun _ h => h⟩
    have h5' : ∀ s, st = some s → q = some s ∧ Inv s ⟨E.B, E.V ++ E1.V, E.Z⟩ w' := fun s hs => by
      refine ⟨(h5 s hs).1, (h5 s hs).2.grow hsat.size hkeep (fun _ _ _ hb => hb) (fun i e v hi hv => ?_) (fun _ hz => hz)⟩
      have hl : i < E.V.length := by
        have := (List.getElem?_eq_some_iff.1 hi).1
        have := (stLe_ok hst).2 s hs
        rw [h4.lV]; omega
      have hv' : (E.V ++ E1.V)[i]? = some v := hv
      rwa [List.getElem?_append_left hl] at hv'
    refine ⟨u, rfl, ?_, ?_⟩
    · cases m with
      | o => cases st with
        | none => cases hm
        | some s => exact .inl ⟨rfl, sx_of h5' rfl⟩
      | l => exact .inr rfl
      | _ => cases st <;> cases hm
    · rw [hd]
      refine h r S1 hpost _ _ w' ?_ ?_ ((h3.mono hle (fun b hb => hkeep b (h4.Z b hb))).put ?_ (by rw [h1]; exact hn)) hj h5'
      · rw [(put_size _ _ _).1]; exact h1
      · rw [(put_size _ _ _).2]; exact h2
      · rw [← h4.lV]
        exact C_sh r u hpl hc
  · cases m with
    | o => exact .inl rfl
    | l => exact .inr rfl
    | _ => cases st <;> cases hm
end
end Go.Proofs.Ytnenbopcoghmaaa.Kw
namespace Go.Proofs.Ytnenbopcoghmaaa.Kw
open Go
/-! ### the return -/
def resOne (T : Tab) (F : Fr) (H : Hp) : ResultVar → Option AV
  | .tmp t => F.get t
  | .cell a t => match T.get t, F.get a with
    | some y, some x => loadA y H x
    | _, _ => none
def resL (T : Tab) (F : Fr) (H : Hp) : List ResultVar → Option (List AV)
  | [] => some []
  | x :: xs => match resOne T F H x, resL T F H xs with
    | some y, some ys => some (y :: ys)
    | _, _ => none
def resV (T : Tab) (F : Fr) (H : Hp) (l : List ResultVar) : Option AV := match resL T F H l with
  | some [x] => some x
  | some xs => some (.tup xs)
  | none => none
def idxN (k : Nat) : List Nat → Option Nat
  | [] => none
  | x :: xs => match Nat.beq x k with
    | true => some 0
    | false => match idxN k xs with
      | some j => some (j + 1)
      | none => none
mutual
def selA (ks : List Nat) : AV → Option AV
  | .r x => some (.r x)
  | .sl k => match idxN k ks with
    | some j => some (.sl j)
    | none => none
  | .agg cs => match selL ks cs with
    | some ds => some (.agg ds)
    | none => none
  | .tup cs => match selL ks cs with
    | some ds => some (.tup ds)
    | none => none
  | _ => none
def selL (ks : List Nat) : List AV → Option (List AV)
  | [] => some []
  | x :: xs => match selA ks x, selL ks xs with
    | some y, some ys => some (y :: ys)
    | _, _ => none
end
def notIn (k : Nat) : List Nat → Bool
  | [] => true
  | x :: xs => !Nat.beq x k && notIn k xs
def nodupN : List Nat → Bool
  | [] => true
  | x :: xs => notIn x xs && nodupN xs
def selS (S : Sp) : List Nat → Option Sp
  | [] => some []
  | k :: ks => match S[k]?, selS S ks with
    | some (some e), some r => some (some e :: r)
    | _, _ => none
section
variable {c : Ctx} {k : List Item} {F : Fr} {H : Hp} {S S' : Sp} {r r' : AV} {E E' : Env} {a : Act} {w w' : World} {P : Program} {w0 : World} {X : Org}
theorem notIn_get : ∀ {ks : List Nat} {k j x : Nat}, notIn k ks = true → ks[j]? = some x → x ≠ k
  | [], k, j, x, _, hj => by simp at hj
  | y :: ys, k, j, x, h, hj => by
    unfold notIn at h
    rw [Bool.and_eq_true] at h
    cases j with
    | zero => simp at hj; subst hj; exact ne_of_nbeq h.1
    | succ j => simp at hj; exact notIn_get h.2 hj
theorem nodupN_get : ∀ {ks : List Nat} {i j x : Nat}, nodupN ks = true → ks[i]? = some x → ks[j]? = some x → i = j
  | [], i, j, x, _, hi, _ => by simp at hi
  | y :: ys, i, j, x, h, hi, hj => by
    unfold nodupN at h
    rw [Bool.and_eq_true] at h
    cases i with
    | zero => cases j with
      | zero => rfl
      | succ j => simp at hi hj; subst hi; exact absurd rfl (notIn_get h.1 hj)
    | succ i => cases j with
      | zero => simp at hi hj; subst hj; exact absurd rfl (notIn_get h.1 hi)
      | succ j => simp at hi hj; rw [nodupN_get h.2 hi hj]
theorem idxN_get : ∀ {ks : List Nat} {k j : Nat}, idxN k ks = some j → ks[j]? = some k
  | [], k, j, h => by simp [idxN] at h
  | x :: xs, k, j, h => by
    simp only [idxN] at h
    split at h
    · rename_i hb
      cases h
      simp [Nat.eq_of_beq_eq_true hb]
    · split at h
      · rename_i j' hj
        cases h
        simpa using idxN_get hj
      · cases h
/-- The values of chosen slices. -/
def pickV (V : List Value) (ks : List Nat) : List Value := ks.map fun k => (V[k]?).getD undef
theorem pickV_get {V : List Value} {ks : List Nat} {j k : Nat} (h : ks[j]? = some k) : (pickV V ks)[j]? = some ((V[k]?).getD undef) := by simp [pickV, h]
mutual
theorem C_sel {ks : List Nat} : ∀ (x y : AV) (u : Value), selA ks x = some y → C E w x u → C ⟨[], pickV E.V ks, E.Z⟩ w y u
  | .r x, y, u, hs, h => by simp only [selA] at hs; cases hs; unfold C at h ⊢; exact h
  | .sl k, y, u, hs, h => by
    simp only [selA] at hs
    split at hs
    · rename_i j hj
      cases hs
      unfold C at h ⊢
      refine ⟨?_, h.2⟩
      rw [pickV_get (idxN_get hj), h.1]
      rfl
    · cases hs
  | .agg cs, y, u, hs, h => by
    simp only [selA] at hs
    split at hs
    · rename_i ds hd
      cases hs
      unfold C at h ⊢
      obtain ⟨us, h1, h2, h3⟩ := h
      exact ⟨us, h1, CL_sel cs ds us hd h2, h3⟩
    · cases hs
  | .tup cs, y, u, hs, h => by
    simp only [selA] at hs
    split at hs
    · rename_i ds hd
      cases hs
      unfold C at h ⊢
      obtain ⟨us, h1, h2⟩ := h
      exact ⟨us, h1, CL_sel cs ds us hd h2⟩
    · cases hs
  | .box _ _, y, u, hs, h => by simp [selA] at hs
  | .el _ _ _ _, y, u, hs, h => by simp [selA] at hs
  | .fn _ _, y, u, hs, h => by simp [selA] at hs
  | .junk, y, u, hs, h => by simp [selA] at hs
theorem CL_sel {ks : List Nat} : ∀ (xs ys : List AV) (us : List Value), selL ks xs = some ys → CL E w xs us → CL ⟨[], pickV E.V ks, E.Z⟩ w ys us
  | [], ys, us, hs, h => by simp only [selL] at hs; cases hs; unfold CL at h ⊢; exact h
  | x :: xs, ys, us, hs, h => by
    simp only [selL] at hs
    cases h1 : selA ks x with
    | none => simp [h1] at hs
    | some y =>
      cases h2 : selL ks xs with
      | none => simp [h1, h2] at hs
      | some ys' =>
        simp only [h1, h2, Option.some.injEq] at hs
        subst hs
        unfold CL at h ⊢
        obtain ⟨u, rr, k1, k2, k3⟩ := h
        exact ⟨u, rr, k1, C_sel x y u h1 k2, CL_sel xs ys' rr h2 k3⟩
end
theorem selS_get : ∀ {ks : List Nat} {S S' : Sp}, selS S ks = some S' → S'.length = ks.length ∧ ∀ (j : Nat) (e : SE), S'[j]? = some (some e) → ∃ k, ks[j]? = some k ∧ S[k]? = some (some e)
  | [], S, S', h => by simp only [selS] at h; cases h; exact ⟨rfl, fun j e hj => by simp at hj⟩
  | k :: ks, S, S', h => by
    simp only [selS] at h
    split at h
    · rename_i e r he hr
      cases h
      obtain ⟨h1, h2⟩ := selS_get hr
      refine ⟨by simp [h1], fun j e' hj => ?_⟩
      cases j with
      | zero => simp at hj; subst hj; exact ⟨k, by simp, he⟩
      | succ j => simp at hj; obtain ⟨k', h3, h4⟩ := h2 j e' hj; exact ⟨k', by simpa using h3, h4⟩
    · cases h
/-- Blocks are forgotten, of the slices some are kept. -/
theorem Sat.select (h : Sat w0 X E H S w) {ks : List Nat} (hn : nodupN ks = true) (hs : selS S ks = some S') : Sat w0 X ⟨[], pickV E.V ks, E.Z⟩ [] S' w := by
  obtain ⟨hl, hg⟩ := selS_get hs
  have at_ : ∀ (j : Nat) (e : SE), S'[j]? = some (some e) → ∃ k v, ks[j]? = some k ∧ S[k]? = some (some e) ∧ E.V[k]? = some v ∧ (pickV E.V ks)[j]? = some v := by
    intro j e hj
    obtain ⟨k, h1, h2⟩ := hg j e hj
    obtain ⟨v, cs, h3, _⟩ := h.sl k e h2
    exact ⟨k, v, h1, h2, h3, by rw [pickV_get h1, h3]; rfl⟩
  refine ⟨rfl, by simp [pickV, hl], fun i t cs hi => by simp at hi, ?_, fun i b hi => by simp at hi, ?_, fun i j b hi => by simp at hi, fun i k e v b hi => by simp at hi, ?_, h.Z, h.old, h.size, h.os, h.tape, h.output, h.zin, h.zup⟩
  · intro j e hj
    obtain ⟨k, v, h1, h2, h3, h4⟩ := at_ j e hj
    obtain ⟨v', cs, k1, k2, k3⟩ := h.sl k e h2
    rw [h3] at k1; cases k1
    exact ⟨v, cs, h4, k2, k3⟩
  · intro j e v b hj hv hb
    obtain ⟨k, v', h1, h2, h3, h4⟩ := at_ j e hj
    have hv' : (pickV E.V ks)[j]? = some v := hv
    rw [h4] at hv'; cases hv'
    exact h.bV k e _ b h2 h3 hb
  · intro j l e e' v v' b hj hl' hv hv' hb hb'
    obtain ⟨k1, u1, a1, a2, a3, a4⟩ := at_ j e hj
    obtain ⟨k2, u2, b1, b2, b3, b4⟩ := at_ l e' hl'
    have hv1 : (pickV E.V ks)[j]? = some v := hv
    have hv2 : (pickV E.V ks)[l]? = some v' := hv'
    rw [a4] at hv1; cases hv1
    rw [b4] at hv2; cases hv2
    have := h.VV k1 k2 e e' _ _ b a2 b2 a3 b3 hb hb'
    subst this
    exact nodupN_get hn a1 b1
def resRun (tmps : Array Value) : ResultVar → Sem Value
  | .tmp t => pure (tmps.getD t undef)
  | .cell x t => do loadVar t (← asAddr (tmps.getD x undef))
theorem results_eq (fn : Func) (tmps : Array Value) : results fn tmps = (do
    let vs ← fn.results.mapM (resRun tmps)
    pure (if h : vs.size = 1 then vs[0] else .tuple vs)) := rfl
theorem resOne_ok (hT : TabOk P c.T) (hP : P = c.P) (h3 : Fits E w F a) (h4 : Sat w0 X E H S w) {v : ResultVar} (h : resOne c.T F H v = some r) :
    ∃ u, C E w r u ∧ (resRun a.tmps v).run P w = .ok u w := by
  subst hP
  cases v with
  | tmp t =>
    simp only [resOne] at h
    obtain ⟨u, h1, h2⟩ := h3.get t r h
    exact ⟨u, h2, by simp [resRun, Array.getD_eq_getD_getElem?, h1]⟩
  | cell x t =>
    simp only [resOne] at h
    split at h
    · rename_i y v hy hv
      obtain ⟨u0, h1, h2⟩ := h3.get x v hv
      obtain ⟨u, k1, b, o, k2, k3, _, k5⟩ := loadA_ok (c := c) (hT t y hy) h4 h h2
      refine ⟨u, k1, ?_⟩
      subst k2
      simp only [resRun, Array.getD_eq_getD_getElem?, h1, Option.getD_some, asAddr, pure_bind]
      exact k5 w rfl
    · cases h
theorem resL_ok (hT : TabOk c.P c.T) (h3 : Fits E w F a) (h4 : Sat w0 X E H S w) : ∀ {l : List ResultVar} {xs : List AV}, resL c.T F H l = some xs →
    ∃ us, CL E w xs us ∧ (l.mapM (resRun a.tmps)).run c.P w = .ok us w
  | [], xs, h => by simp only [resL] at h; cases h; exact ⟨[], by unfold CL; rfl, by simp⟩
  | v :: l, xs, h => by
    simp only [resL] at h
    split at h
    · rename_i y ys hy hys
      cases h
      obtain ⟨u, k1, k2⟩ := resOne_ok (c := c) hT rfl h3 h4 hy
      obtain ⟨us, m1, m2⟩ := resL_ok hT h3 h4 hys
      refine ⟨u :: us, by unfold CL; exact ⟨u, us, rfl, k1, m1⟩, ?_⟩
      rw [List.mapM_cons, Sem.run_bind, k2, Result.andThen_ok, Sem.run_bind, m2, Result.andThen_ok]
      rfl
    · cases h
theorem resV_ok (hT : TabOk c.P c.T) (h3 : Fits E w F a) (h4 : Sat w0 X E H S w) (h : resV c.T F H c.fn.results.toList = some r) : ∃ u, C E w r u ∧ (results c.fn a.tmps).run c.P w = .ok u w := by
  unfold resV at h
  have run : ∀ (xs : List AV) (us : List Value), CL E w xs us → ((c.fn.results.toList).mapM (resRun a.tmps)).run c.P w = .ok us w →
      (results c.fn a.tmps).run c.P w = .ok (if h : us.length = 1 then us[0] else .tuple (List.toArray us)) w := by
    intro xs us _ hr
    rw [results_eq, Array.mapM_eq_mapM_toList, Sem.run_bind, Sem.run_map, hr]
    simp only [Result.andThen_ok, Sem.run_pure, List.size_toArray]
    rfl
  split at h
  · rename_i x hx
    cases h
    obtain ⟨us, k1, k2⟩ := resL_ok hT h3 h4 hx
    have := run _ us k1 k2
    unfold CL at k1
    obtain ⟨u, rr, rfl, k3, k4⟩ := k1
    unfold CL at k4
    subst k4
    exact ⟨u, k3, by simpa using this⟩
  · rename_i xs hne hx
    cases h
    obtain ⟨us, k1, k2⟩ := resL_ok hT h3 h4 hx
    have hl : us.length ≠ 1 := by
      rw [CL_length k1]
      intro e
      obtain ⟨x, rfl⟩ := List.length_eq_one_iff.1 e
      exact hne x rfl
    refine ⟨.tuple (List.toArray us), by unfold C; exact ⟨us, rfl, k1⟩, ?_⟩
    have := run _ us k1 k2
    rwa [dif_neg hl] at this
  · cases h
theorem gi_retW {Post : AV → Sp → Prop} (hT : TabOk c.P c.T) (hf : c.P.funcs[c.f]? = some c.fn) (hc : c.R = RetR c.w0 c.X.Z0 Post) (hX : c.X.X = fun _ => False) (ks : List Nat) (hr : resV c.T F H c.fn.results.toList = some r) (hn : nodupN ks = true) (hs : selA ks r = some r') (hS : selS S ks = some S')
    (hp : Post r' S') : GI c (.code .ret :: k) F H S := by
  intro E a w h1 h2 h3 h4
  obtain ⟨u, hu, hrun⟩ := resV_ok hT h3 h4 hr
  refine Reach.ret hf h2 hrun ?_
  rw [hc]
  refine ⟨u, r', S', ⟨[], pickV E.V ks, E.Z⟩, rfl, hp, C_sel r r' u hs hu, ?_⟩
  have := h4.select hn hS
  have e : c.X = ⟨fun _ => False, c.X.Z0⟩ := by cases hcx : c.X; simp [hcx] at hX; simp [hX]
  rw [e] at this
  exact this
end
end Go.Proofs.Ytnenbopcoghmaaa.Kw
namespace Go.Proofs.Ytnenbopcoghmaaa.Kw
open Go
/-! ### less is told; loops -/
def SubF : Fr → Fr → Prop
  | [], _ => True
  | (d, x) :: r, F => F.get d = some x ∧ SubF r F
def SubH : Hp → Hp → Prop
  | [], _ => True
  | x :: xs, y :: ys => x = y ∧ SubH xs ys
  | _ :: _, [] => False
def SubS : Sp → Sp → Prop
  | [], _ => True
  | x :: xs, y :: ys => x = y ∧ SubS xs ys
  | _ :: _, [] => False
mutual
def scA (n m : Nat) : AV → Bool
  | .r _ => true
  | .box i _ => Nat.blt i n
  | .sl k => Nat.blt k m
  | .el k _ _ _ => Nat.blt k m
  | .agg cs => scL n m cs
  | .tup cs => scL n m cs
  | .fn _ cs => scL n m cs
  | .junk => true
def scL (n m : Nat) : List AV → Bool
  | [] => true
  | c :: cs => scA n m c && scL n m cs
end
def scF (n m : Nat) : Fr → Bool
  | [] => true
  | (_, x) :: r => scA n m x && scF n m r
def scH (n m : Nat) : Hp → Bool
  | [] => true
  | none :: r => scH n m r
  | some (_, cs) :: r => scL n m cs && scH n m r
def sc (F : Fr) (H : Hp) (S : Sp) : Bool := scF H.length S.length F && scH H.length S.length H
section
variable {c : Ctx} {k : List Item} {F F' : Fr} {H H' : Hp} {S S' : Sp} {E E' : Env} {a : Act} {w w' : World} {w0 : World} {X : Org}
theorem take_get {α : Type} {l : List α} {n i : Nat} {x : α} (hi : i < n) (h : l[i]? = some x) : (l.take n)[i]? = some x := by
  rw [List.getElem?_take, if_pos hi]; exact h
theorem get_take {α : Type} {l : List α} {n i : Nat} {x : α} (h : (l.take n)[i]? = some x) : l[i]? = some x := by
  rw [List.getElem?_take] at h
  split at h
  · exact h
  · cases h
mutual
theorem C_sc {n m : Nat} : ∀ (x : AV) (u : Value), scA n m x = true → C E w x u → C ⟨E.B.take n, E.V.take m, E.Z⟩ w x u
  | .r x, u, _, h => by unfold C at h ⊢; exact h
  | .box i o, u, hs, h => by unfold C at h ⊢; obtain ⟨b, h1, h2⟩ := h; exact ⟨b, take_get (Nat.le_of_ble_eq_true hs) h1, h2⟩
  | .sl k, u, hs, h => by unfold C at h ⊢; exact ⟨take_get (Nat.le_of_ble_eq_true hs) h.1, h.2⟩
  | .el k z i o, u, hs, h => by unfold C at h ⊢; obtain ⟨b, n', c', h1, h2⟩ := h; exact ⟨b, n', c', take_get (Nat.le_of_ble_eq_true hs) h1, h2⟩
  | .agg cs, u, hs, h => by unfold C at h ⊢; obtain ⟨us, h1, h2, h3⟩ := h; exact ⟨us, h1, CL_sc cs us hs h2, h3⟩
  | .tup cs, u, hs, h => by unfold C at h ⊢; obtain ⟨us, h1, h2⟩ := h; exact ⟨us, h1, CL_sc cs us hs h2⟩
  | .fn f cs, u, hs, h => by unfold C at h ⊢; obtain ⟨us, h1, h2⟩ := h; exact ⟨us, h1, CL_sc cs us hs h2⟩
  | .junk, u, _, h => by unfold C; trivial
theorem CL_sc {n m : Nat} : ∀ (xs : List AV) (us : List Value), scL n m xs = true → CL E w xs us → CL ⟨E.B.take n, E.V.take m, E.Z⟩ w xs us
  | [], us, _, h => by unfold CL at h ⊢; exact h
  | x :: xs, us, hs, h => by
    unfold scL at hs
    rw [Bool.and_eq_true] at hs
    unfold CL at h ⊢
    obtain ⟨u, r, h1, h2, h3⟩ := h
    exact ⟨u, r, h1, C_sc x u hs.1 h2, CL_sc xs r hs.2 h3⟩
end
theorem SubF_get : ∀ {F' F : Fr}, SubF F' F → ∀ {d : Nat} {x : AV}, F'.get d = some x → F.get d = some x
  | [], F, _, d, x, h => by simp [Fr.get] at h
  | (d', y) :: r, F, hs, d, x, h => by
    unfold SubF at hs
    unfold Fr.get at h
    cases hb : Nat.beq d' d with
    | true =>
      rw [hb] at h
      have := Nat.eq_of_beq_eq_true hb
      subst this
      simp at h; subst h
      exact hs.1
    | false => rw [hb] at h; exact SubF_get hs.2 h
theorem scF_get {n m : Nat} : ∀ {F : Fr}, scF n m F = true → ∀ {d : Nat} {x : AV}, F.get d = some x → scA n m x = true
  | [], _, d, x, h => by simp [Fr.get] at h
  | (d', y) :: r, hs, d, x, h => by
    unfold scF at hs
    rw [Bool.and_eq_true] at hs
    unfold Fr.get at h
    cases hb : Nat.beq d' d with
    | true => rw [hb] at h; simp at h; subst h; exact hs.1
    | false => rw [hb] at h; exact scF_get hs.2 h
theorem SubH_get : ∀ {H' H : Hp}, SubH H' H → H'.length ≤ H.length ∧ ∀ {i : Nat} {x}, H'[i]? = some x → H[i]? = some x
  | [], H, _ => ⟨by simp, fun {i x} h => by simp at h⟩
  | x :: xs, [], h => h.elim
  | x :: xs, y :: ys, h => by
    unfold SubH at h
    obtain ⟨h1, h2⟩ := SubH_get h.2
    refine ⟨by simp; exact h1, fun {i z} hi => ?_⟩
    cases i with
    | zero => simp at hi ⊢; rw [← h.1]; exact hi
    | succ i => simp at hi ⊢; exact h2 hi
theorem SubS_get : ∀ {H' H : Sp}, SubS H' H → H'.length ≤ H.length ∧ ∀ {i : Nat} {x}, H'[i]? = some x → H[i]? = some x
  | [], H, _ => ⟨by simp, fun {i x} h => by simp at h⟩
  | x :: xs, [], h => h.elim
  | x :: xs, y :: ys, h => by
    unfold SubS at h
    obtain ⟨h1, h2⟩ := SubS_get h.2
    refine ⟨by simp; exact h1, fun {i z} hi => ?_⟩
    cases i with
    | zero => simp at hi ⊢; rw [← h.1]; exact hi
    | succ i => simp at hi ⊢; exact h2 hi
theorem scH_get {n m : Nat} : ∀ {H : Hp}, scH n m H = true → ∀ {i : Nat} {t : TypeId} {cs : List AV}, H[i]? = some (some (t, cs)) → scL n m cs = true
  | [], _, i, t, cs, h => by simp at h
  | none :: r, hs, i, t, cs, h => by
    cases i with
    | zero => simp at h
    | succ i => simp at h; exact scH_get (by simpa [scH] using hs) h
  | some (t', ds) :: r, hs, i, t, cs, h => by
    unfold scH at hs
    rw [Bool.and_eq_true] at hs
    cases i with
    | zero => simp at h; obtain ⟨rfl, rfl⟩ := h; exact hs.1
    | succ i => simp at h; exact scH_get hs.2 h
theorem Sat.weak (h : Sat w0 X E H S w) (hH : SubH H' H) (hS : SubS S' S) (hsc : scH H'.length S'.length H' = true) : Sat w0 X ⟨E.B.take H'.length, E.V.take S'.length, E.Z⟩ H' S' w := by
  obtain ⟨lH, gH⟩ := SubH_get hH
  obtain ⟨lS, gS⟩ := SubS_get hS
  have at_ : ∀ (j : Nat) (e : SE), S'[j]? = some (some e) → S[j]? = some (some e) ∧ j < S'.length := fun j e hj => ⟨gS hj, (List.getElem?_eq_some_iff.1 hj).1⟩
  refine ⟨by simp [h.lB, lH], by simp [h.lV, lS], ?_, ?_, fun i b hi => h.bB i b (get_take hi), fun k e v b hk hv => h.bV k e v b (at_ k e hk).1 (get_take hv), fun i j b hi hj => h.BB i j b (get_take hi) (get_take hj),
    fun i k e v b hi hk hv => h.BV i k e v b (get_take hi) (at_ k e hk).1 (get_take hv), fun k l e e' v v' b hk hl hv hv' => h.VV k l e e' v v' b (at_ k e hk).1 (at_ l e' hl).1 (get_take hv) (get_take hv'), h.Z, h.old, h.size, h.os, h.tape, h.output, h.zin, h.zup⟩
  · intro i t cs hi
    obtain ⟨b, us, k1, k2, k3, k4⟩ := h.box i t cs (gH hi)
    exact ⟨b, us, take_get (List.getElem?_eq_some_iff.1 hi).1 k1, k2, CL_sc cs us (scH_get hsc hi) k3, k4⟩
  · intro k e hk
    obtain ⟨v, cs, k1, k2, k3⟩ := h.sl k e (at_ k e hk).1
    exact ⟨v, cs, take_get (at_ k e hk).2 k1, k2, k3⟩
theorem gi_weak (hF : SubF F' F) (hH : SubH H' H) (hS : SubS S' S) (hsc : sc F' H' S' = true) (h : GI c k F' H' S') : GI c k F H S := by
  intro E a w h1 h2 h3 h4
  unfold sc at hsc
  rw [Bool.and_eq_true] at hsc
  refine h ⟨E.B.take H'.length, E.V.take S'.length, E.Z⟩ a w h1 h2 ⟨fun d x hx => ?_⟩ (h4.weak hH hS hsc.2)
  obtain ⟨u, k1, k2⟩ := h3.get d x (SubF_get hF hx)
  exact ⟨u, k1, C_sc x u (scF_get hsc.1 hx) k2⟩
/-- A LOOP: s: what its variables are; pre: what holds of them at its head; ms: what each round lowers. -/
theorem gi_loop {x : Code} {σ : Type} (Fs : σ → Fr) (Hs : σ → Hp) (Ss : σ → Sp) (pre : σ → Prop) (ms : σ → Nat) (s0 : σ) (h0 : pre s0) (hF : SubF (Fs s0) F) (hH : SubH (Hs s0) H) (hS : SubS (Ss s0) S) (hsc : ∀ s, sc (Fs s) (Hs s) (Ss s) = true)
    (round : ∀ s, pre s → (∀ s' F1 H1 S1, pre s' → ms s' < ms s → SubF (Fs s') F1 → SubH (Hs s') H1 → SubS (Ss s') S1 → GI c (.inLoop x :: k) F1 H1 S1) → GI c (.code x :: .inLoop x :: k) (Fs s) (Hs s) (Ss s)) : GI c (.code (.loop x) :: k) F H S := by
  have key : ∀ n s, ms s = n → pre s → GI c (.code x :: .inLoop x :: k) (Fs s) (Hs s) (Ss s) := by
    intro n
    induction n using Nat.strongRecOn with
    | _ n ih =>
      intro s hn hp
      exact round s hp (fun s' F1 H1 S1 hp' hlt hF' hH' hS' => gi_inLoop (gi_weak hF' hH' hS' (hsc s') (ih (ms s') (hn ▸ hlt) s' rfl hp')))
  exact gi_loop0 (gi_weak hF hH hS (hsc s0) (key _ s0 rfl h0))
/-- WAYS MEET: what follows is shown once. -/
theorem gi_cut {k' : List Item} {σ : Type} (Fs : σ → Fr) (Hs : σ → Hp) (Ss : σ → Sp) (pre : σ → Prop) (hsc : ∀ s, sc (Fs s) (Hs s) (Ss s) = true) (after : ∀ s, pre s → GI c k' (Fs s) (Hs s) (Ss s))
    (first : (∀ s F1 H1 S1, pre s → SubF (Fs s) F1 → SubH (Hs s) H1 → SubS (Ss s) S1 → GI c k' F1 H1 S1) → GI c k F H S) : GI c k F H S :=
  first (fun s _ _ _ hp hF hH hS => gi_weak hF hH hS (hsc s) (after s hp))
/-- A region, but not the one of that number. -/
theorem gi_plain_ne (n : Nat) {id : Nat} {l : List Oper} (_hn : Nat.beq id n = false) (h : GR c (List.toArray l) k none none (inText 0 l) F H S) : GI c (.code (.region id (List.toArray l) false) :: k) F H S := gi_plain h
end
end Go.Proofs.Ytnenbopcoghmaaa.Kw
namespace Go.Proofs.Ytnenbopcoghmaaa.Kw
open Go
section
variable {c : Ctx} {ops : Array Oper} {k : List Item} {q st : Option St} {i : Nat} {m : Md} {sch : List (Nat × Md)} {F : Fr} {H : Hp} {S : Sp} {o : Oper} {d : Nat} {r : AV} {E E' : Env} {a : Act} {w w' : World} {P : Program} {w0 : World} {X : Org}
/-- An operation that answers the same in every world. -/
theorem r_ans (hi : ops[i]? = some o) (hd : o.dst = some d) (hn : Nat.blt d c.n = true) (hg : gOk ops F o.guard = some true) (hm : mOk m st = true) (hv : ∀ E a w, Fits E w F a → Sat c.w0 c.X E H S w → ∃ u, C E w r u ∧ Ans c.P a o u)
    (h : GR c ops k q st sch ((d, r) :: F) H S) : GR c ops k q st ((i, m) :: sch) F H S := by
  intro E a w h1 h2 h3 h4 h5
  obtain ⟨u, hu, ha⟩ := hv E a w h3 h4
  refine seq_ans hi (gOk_ok h3 hg) ha ?_ ?_
  · cases m with
    | p => exact .inl rfl
    | l => exact .inr (.inl rfl)
    | _ => cases st with
      | none => cases hm
      | some s => exact .inr (.inr (sx_of h5 rfl))
  · rw [hd]
    refine h E _ w ?_ ?_ (h3.put hu (by rw [h1]; exact hn)) h4 h5
    · rw [(put_size _ _ _).1]; exact h1
    · rw [(put_size _ _ _).2]; exact h2
theorem add_at (b o n : Nat) : (⟨b, o, none⟩ : Addr).add n = ⟨b, o + n, none⟩ := by
  unfold Addr.add
  split
  · rename_i h; subst h; rfl
  · rfl
theorem CRows_get {Z : Nat → Prop} {sz : Nat} : ∀ {L : List (List RV)} {b o : Nat}, CRows Z w sz L b o → ∀ {i : Nat} {row : List RV}, L[i]? = some row → row.length = sz ∧ CAt Z w row b (o + i * sz)
  | [], b, o, _, i, row, h => by simp at h
  | x :: L, b, o, hc, i, row, h => by
    unfold CRows at hc
    cases i with
    | zero => simp at h; subst h; exact ⟨hc.1, by simpa using hc.2.1⟩
    | succ i =>
      simp at h
      obtain ⟨h1, h2⟩ := CRows_get hc.2.2 h
      refine ⟨h1, ?_⟩
      rw [show o + (i + 1) * sz = o + sz + i * sz from by rw [Nat.add_mul, Nat.one_mul]; omega]
      exact h2
theorem run_indexAt {t e : TypeId} {ti : TypeInfo} {b : Nat} {o' n cp : Nat} {kk : IntKind} {j : Int} (ht : P.underlying t = some (.slice e)) (he : P.info? e = some ti) (h0 : 0 ≤ j) (h1 : j.toNat < n) (w' : World) :
    (Instr.indexAt t (.slice (some ⟨b, o', none⟩) n cp) (.int kk j)).run P w' = .ok (.pointer (some ⟨b, o' + j.toNat * ti.size, none⟩)) w' := by
  unfold Instr.indexAt
  have h2 : 0 ≤ j ∧ j < (n : Int) := ⟨h0, by omega⟩
  simp only [asIntOf, pure_bind, Sem.run_bind, run_underlying_ ht, Result.andThen_ok]
  have e1 : (match (TypeDesc.slice e) with | .array .. => true | _ => false) = false := rfl
  simp only [if_pos h2, Sem.run_bind, run_sizeOf_ he, Result.andThen_ok, Sem.run_pure, add_at]
/-- An element of a slice that is read. -/
theorem r_idx {t e : TypeId} {y ye : Ty} {x ix : Operand} {sz : Nat} {L : List (List RV)} {kk : IntKind} {j : Int} {row : List RV} (hT : TabOk c.P c.T) (hi : ops[i]? = some o) (hop : o.op = .indexAddr t x ix) (hd : o.dst = some d) (hn : Nat.blt d c.n = true) (hg : gOk ops F o.guard = some true) (hm : mOk m st = true)
    (hx : ev F x = some (.r (.rs sz L))) (hix : ev F ix = some (.r (.v (.int kk j)))) (hy : c.T.get t = some y) (hel : y.elem = some e) (hye : c.T.get e = some ye) (hsz : ye.size = sz) (h0 : 0 ≤ j) (hr : L[j.toNat]? = some row)
    (h : GR c ops k q st sch ((d, .r (.ro row)) :: F) H S) : GR c ops k q st ((i, m) :: sch) F H S := by
  refine r_ans hi hd hn hg hm (fun E a w h3 h4 => ?_) h
  have hv := h3.ev hx
  have hjv := C_v (h3.ev hix)
  unfold C CR at hv
  obtain ⟨A, cp, hu, h5, h6, h7⟩ := hv
  have hlt := (List.getElem?_eq_some_iff.1 hr).1
  rcases h7 with h7 | ⟨b, o', rfl, hz, hc⟩
  · subst h7; simp at hlt
  · obtain ⟨ti, z, hti, hts, _⟩ := tyOf_zero (hT e ye hye)
    obtain ⟨h8, h9⟩ := CRows_get hc hr
    refine ⟨.pointer (some ⟨b, o' + j.toNat * sz, none⟩), by unfold C CR; exact ⟨b, _, rfl, hz, h9⟩, ans_v (s := Instr.indexAt t (a.eval x) (a.eval ix)) (by unfold execOp; simp only [hop]) (fun w' => ?_)⟩
    rw [hu, hjv, run_indexAt (tyOf_elem (hT t y hy) hel) hti h0 hlt, hts, hsz]
/-- An element of a slice of the call's own. -/
theorem r_idxS {t e : TypeId} {y ye : Ty} {x ix : Operand} {kn : Nat} {se : SE} {kk : IntKind} {j : Int} (hT : TabOk c.P c.T) (hi : ops[i]? = some o) (hop : o.op = .indexAddr t x ix) (hd : o.dst = some d) (hn : Nat.blt d c.n = true) (hg : gOk ops F o.guard = some true) (hm : mOk m st = true)
    (hx : ev F x = some (.sl kn)) (hix : ev F ix = some (.r (.v (.int kk j)))) (hS : S[kn]? = some (some se)) (hy : c.T.get t = some y) (hel : y.elem = some e) (hye : c.T.get e = some ye) (hsz : ye.size = se.sz) (h0 : 0 ≤ j) (hlt : j.toNat < se.L.length)
    (h : GR c ops k q st sch ((d, .el kn se.sz j.toNat 0) :: F) H S) : GR c ops k q st ((i, m) :: sch) F H S := by
  refine r_ans hi hd hn hg hm (fun E a w h3 h4 => ?_) h
  have hv := h3.ev hx
  have hjv := C_v (h3.ev hix)
  unfold C at hv
  obtain ⟨v, cs, k1, k2, k3⟩ := h4.sl kn se hS
  have hvv := hv.1
  rw [k1] at hvv; cases hvv
  obtain ⟨ti, z, hti, hts, _⟩ := tyOf_zero (hT e ye hye)
  rcases own_cells k2 with ⟨_, h5⟩ | ⟨b, cap, hvb, _, _, _, _⟩
  · omega
  · refine ⟨.pointer (some ⟨b, 0 + j.toNat * ti.size, none⟩), ?_, ans_v (s := Instr.indexAt t (a.eval x) (a.eval ix)) (by unfold execOp; simp only [hop]) (fun w' => ?_)⟩
    · unfold C
      rw [hvb] at k1
      exact ⟨b, _, cap, k1, by rw [hts, hsz, Nat.zero_add]; rfl⟩
    · rw [hjv, hvb, run_indexAt (tyOf_elem (hT t y hy) hel) hti h0 hlt]
/-- What is loaded of an element. -/
def loadRow (y : Ty) (row : List RV) (off : Nat) : Option AV := match y.agg with
  | true => match Nat.ble (off + y.size) row.length with
    | true => some (.agg (rows ((row.drop off).take y.size)))
    | false => none
  | false => match row[off]? with
    | some x => some (.r x)
    | none => none
theorem RL_drop {Z : Nat → Prop} : ∀ (n : Nat) {cs : List RV} {us : List Value}, RL Z w cs us → RL Z w (cs.drop n) (us.drop n)
  | 0, cs, us, h => by simpa using h
  | n + 1, [], us, h => by unfold RL at h; subst h; simp; unfold RL; rfl
  | n + 1, x :: cs, us, h => by
    unfold RL at h
    obtain ⟨u, r, rfl, h2, h3⟩ := h
    simpa using RL_drop n h3
def elOk (m : Md) (st : Option St) (kn : Nat) : Bool := match m, st with
  | .l, _ => true
  | .o, some _ => true
  | .t, some s => match s.S1[kn]? with
    | some (some _) => true
    | _ => false
  | _, _ => false
/-- A load from an element of a slice of the call's own. -/
theorem r_loadS {t : TypeId} {y : Ty} {x : Operand} {kn sz j off : Nat} {se : SE} {row : List RV} (hT : TabOk c.P c.T) (hi : ops[i]? = some o) (hop : o.op = .load t x) (hd : o.dst = some d) (hn : Nat.blt d c.n = true) (hg : gOk ops F o.guard = some true)
    (hx : ev F x = some (.el kn sz j off)) (hS : S[kn]? = some (some se)) (hsz : se.sz = sz) (hr : se.L[j]? = some row) (hy : c.T.get t = some y) (hm : elOk m st kn = true) (hl : loadRow y row off = some r)
    (h : GR c ops k q st sch ((d, r) :: F) H S) : GR c ops k q st ((i, m) :: sch) F H S := by
  intro E a w h1 h2 h3 h4 h5
  obtain ⟨v, cs, k1, k2, k3⟩ := h4.sl kn se hS
  have hv := h3.ev hx
  unfold C at hv
  obtain ⟨b, n, cap, hvb, hp⟩ := hv
  rw [k1] at hvb
  cases hvb
  have hlt := (List.getElem?_eq_some_iff.1 hr).1
  obtain ⟨vs, e1, e2, e3⟩ := Rows_get k3 hr
  rcases own_cells k2 with ⟨h6, _⟩ | ⟨b', cap', hvb, h6, h7, h8, h9⟩
  · cases h6
  · cases hvb
    subst hsz
    have e4 := RL_drop off e3
    have vget : ∀ (jj : Nat) (u : Value), vs[off + jj]? = some u → ∀ w' : World, w'.heap[b]? = w.heap[b]? → w'.cell? ⟨b, j * se.sz + off + jj, none⟩ = some u := by
      intro jj u hu w' hw'
      rw [World.cell?_of_block (w := w) (w' := w') (a := ⟨b, j * se.sz + off + jj, none⟩) hw']
      refine h9 _ u ?_
      rw [← e1, List.getElem?_take] at hu
      split at hu
      · rw [List.getElem?_drop] at hu
        rw [show j * se.sz + off + jj = j * se.sz + (off + jj) from by omega]
        exact hu
      · cases hu
    have ans : ∃ u, C E w r u ∧ ∀ w' : World, w'.heap[b]? = w.heap[b]? → (loadVar t ⟨b, j * se.sz + off, none⟩).run c.P w' = .ok u w' := by
      unfold loadRow at hl
      split at hl
      · rename_i hag
        split at hl
        · rename_i hle
          cases hl
          have hle' := Nat.le_of_ble_eq_true hle
          have hvl := RL_length e3
          refine ⟨.agg (List.toArray ((vs.drop off).take y.size)), by unfold C; exact ⟨_, rfl, RL_rows (RL_take _ e4), RL_one (RL_take _ e4)⟩, fun w' hw' => ?_⟩
          refine run_loadVar (hT t y hy) (us := (vs.drop off).take y.size) (fun jj u hj => ?_) (by rw [hag]; exact ⟨by simp; omega, rfl⟩)
          rw [List.getElem?_take] at hj
          split at hj
          · rw [List.getElem?_drop] at hj
            exact vget jj u hj w' hw'
          · cases hj
        · cases hl
      · rename_i hag
        split at hl
        · rename_i x' hx'
          cases hl
          obtain ⟨u, m1, m2⟩ := RL_get e3 hx'
          refine ⟨u, by unfold C; exact m2, fun w' hw' => run_loadVar (hT t y hy) (us := vs.drop off) (fun jj u hj => ?_) (by rw [hag]; simpa using m1)⟩
          rw [List.getElem?_drop] at hj
          exact vget jj u hj w' hw'
        · cases hl
    obtain ⟨u, hu, hrun⟩ := ans
    have rest : Seq c.P ops (RQ c k) (Sx q) sch (a.put o.dst u) w := by
      rw [hd]
      refine h E _ w ?_ ?_ (h3.put hu (by rw [h1]; exact hn)) h4 h5
      · rw [(put_size _ _ _).1]; exact h1
      · rw [(put_size _ _ _).2]; exact h2
    have run : ∀ w' : World, w'.heap[b]? = w.heap[b]? → (execOp a.eval o).run c.P w' = .ok (.value u) w' := fun w' hw' => by
      unfold execOp
      simp only [hop, hp, Instr.loadAt, Instr.sureAddr, pure_bind, Sem.run_bind, hrun w' hw', Result.andThen_ok, Sem.run_pure]
    have hw := gOk_ok (o := o) h3 hg
    cases m with
    | p => cases st <;> cases hm
    | o => cases st with
      | none => cases hm
      | some s => exact seq_value hi hw (run w rfl) (.inl ⟨rfl, sx_of h5 rfl⟩) rest
    | l => exact seq_value hi hw (run w rfl) (.inr rfl) rest
    | t => cases st with
      | none => cases hm
      | some s =>
        obtain ⟨hq, inv⟩ := h5 s rfl
        refine ⟨o, hi, u, .inl ⟨hw, fun w' hw' => run w' ?_⟩, sx_of h5 rfl, rest⟩
        rw [hq] at hw'
        have hb : b < s.w1.heap.size := by
          simp only [elOk] at hm
          split at hm
          · rename_i e' he'
            exact inv.V kn e' _ b he' k1 rfl
          · cases hm
        exact (hw'.2 b hb).trans (inv.keeps.2 b hb).symm
end
end Go.Proofs.Ytnenbopcoghmaaa.Kw
namespace Go.Proofs.Ytnenbopcoghmaaa.Kw
open Go
/-! ### a literal slice -/
def rvL : List AV → Option (List RV)
  | [] => some []
  | .r x :: xs => match rvL xs with
    | some ys => some (x :: ys)
    | none => none
  | _ :: _ => none
def litRows (sz : Nat) : Nat → List (Nat × AV) → Option (List (List RV))
  | _, [] => some []
  | n, (i, x) :: xs => match Nat.beq i n, cellsA x with
    | true, some cs => match rvL cs, litRows sz (n + 1) xs with
      | some r, some rs => match Nat.beq r.length sz with
        | true => some (r :: rs)
        | false => none
      | _, _ => none
    | _, _ => none
section
variable {c : Ctx} {ops : Array Oper} {k : List Item} {q st : Option St} {i : Nat} {m : Md} {sch : List (Nat × Md)} {F : Fr} {H : Hp} {S : Sp} {o : Oper} {d : Nat} {r : AV} {E E' : Env} {a : Act} {w w' : World} {P : Program} {w0 : World} {X : Org}
theorem rvL_ok : ∀ {xs : List AV} {ys : List RV} {us : List Value}, rvL xs = some ys → CL E w xs us → RL E.Z w ys us ∧ ys.length = xs.length
  | [], ys, us, h, hc => by simp only [rvL] at h; cases h; unfold CL at hc; unfold RL; exact ⟨hc, rfl⟩
  | x :: xs, ys, us, h, hc => by
    cases x with
    | r x =>
      simp only [rvL] at h
      split at h
      · rename_i zs hz
        cases h
        unfold CL at hc
        obtain ⟨u, r, h1, h2, h3⟩ := hc
        obtain ⟨k1, k2⟩ := rvL_ok hz h3
        unfold C at h2
        exact ⟨by unfold RL; exact ⟨u, r, h1, h2, k1⟩, by simp [k2]⟩
      · cases h
    | _ => simp [rvL] at h
theorem foldl_set : ∀ (v done rest : List Value), v.length ≤ rest.length → (v.zipIdx 0).foldl (fun acc (c, j) => acc.setIfInBounds (done.length + j) c) (List.toArray (done ++ rest)) = List.toArray (done ++ v ++ rest.drop v.length)
  | [], done, rest, _ => by simp
  | x :: v, done, rest, h => by
    cases rest with
    | nil => simp at h
    | cons y rest =>
      have sh : ∀ (l : List Value) (n b : Nat) (A : Array Value), (l.zipIdx (n + 1)).foldl (fun acc (c, j) => acc.setIfInBounds (b + j) c) A = (l.zipIdx n).foldl (fun acc (c, j) => acc.setIfInBounds (b + 1 + j) c) A := by
        intro l
        induction l with
        | nil => intro n b A; rfl
        | cons x l ih =>
          intro n b A
          simp only [List.zipIdx_cons, List.foldl_cons]
          rw [ih (n + 1)]
          congr 2
          omega
      simp only [List.zipIdx_cons, List.foldl_cons, Nat.zero_add, Nat.add_zero]
      rw [sh v 0]
      have e : (List.toArray (done ++ y :: rest)).setIfInBounds done.length x = List.toArray ((done ++ [x]) ++ rest) := by simp
      rw [e]
      have := foldl_set v (done ++ [x]) rest (by simp at h; omega)
      rw [show (done ++ [x]).length = done.length + 1 from by simp] at this
      rw [this]
      simp
theorem fill_rows {sz : Nat} {place : Nat → Option (Nat × Nat)} (hp : ∀ i, place i = some (i * sz, sz)) : ∀ (ps : List (Nat × Value)) (vs : List (List Value)) (n : Nat) (done rest : List Value), done.length = n * sz → rest.length = vs.length * sz → ps.length = vs.length →
    (∀ (j : Nat) p v, ps[j]? = some p → vs[j]? = some v → p.1 = n + j ∧ p.2.cells = List.toArray v ∧ v.length = sz) → Instr.fill place (List.toArray (done ++ rest)) ps = some (List.toArray (done ++ vs.flatten))
  | [], vs, n, done, rest, h1, h2, h3, h4 => by
    have : vs = [] := List.eq_nil_of_length_eq_zero (by simpa using h3.symm)
    subst this
    have : rest = [] := List.eq_nil_of_length_eq_zero (by simpa using h2)
    subst this
    simp [Instr.fill]
  | (i, u) :: ps, [], n, done, rest, h1, h2, h3, h4 => by simp at h3
  | (i, u) :: ps, v :: vs, n, done, rest, h1, h2, h3, h4 => by
    obtain ⟨k1, k2, k3⟩ := h4 0 (i, u) v (by simp) (by simp)
    simp only [Nat.add_zero] at k1
    subst k1
    have hle : sz ≤ rest.length := by rw [h2]; simp [Nat.add_mul]
    rw [fill_cons (hp i) (by rw [k2]; simp [k3]) (by simp; omega)]
    have e : (u.cells.zipIdx.foldl (fun cs (c, j) => cs.setIfInBounds (i * sz + j) c) (List.toArray (done ++ rest))) = List.toArray ((done ++ v) ++ rest.drop v.length) := by
      rw [k2, ← h1]
      have := foldl_set v done rest (by rw [k3]; exact hle)
      simpa using this
    rw [e]
    have := fill_rows hp ps vs (i + 1) (done ++ v) (rest.drop v.length) (by simp [h1, k3, Nat.add_mul]) (by simp [h2, k3, Nat.add_mul]) (by simpa using h3) (fun j p v' hj hv => by
      obtain ⟨m1, m2, m3⟩ := h4 (j + 1) p v' (by simpa using hj) (by simpa using hv)
      exact ⟨by omega, m2, m3⟩)
    rw [this]
    simp
theorem litRows_ok {sz : Nat} : ∀ {xs : List (Nat × AV)} {n : Nat} {L : List (List RV)} {ps : List (Nat × Value)}, litRows sz n xs = some L → CP E w xs ps → ∃ vs : List (List Value), ps.length = vs.length ∧ L.length = vs.length ∧ Rows E.Z w sz L vs.flatten ∧ (∀ (j : Nat) p v, ps[j]? = some p → vs[j]? = some v → p.1 = n + j ∧ p.2.cells = List.toArray v ∧ v.length = sz)
  | [], n, L, ps, h, hc => by
    simp only [litRows] at h; cases h
    unfold CP at hc
    subst hc
    exact ⟨[], rfl, rfl, by unfold Rows; rfl, fun j p v hj => by simp at hj⟩
  | (i, x) :: xs, n, L, ps, h, hc => by
    simp only [litRows] at h
    split at h
    · rename_i cs hb hcs
      split at h
      · rename_i r rs hr hrs
        split at h
        · rename_i hl
          cases h
          unfold CP at hc
          obtain ⟨u, pr, rfl, h2, h3⟩ := hc
          obtain ⟨us, e1, e2, e3⟩ := cellsA_ok hcs h2
          obtain ⟨k1, k2⟩ := rvL_ok hr e2
          obtain ⟨vs, m1, m2, m3, m4⟩ := litRows_ok hrs h3
          have hsz := Nat.eq_of_beq_eq_true hl
          refine ⟨us :: vs, by simp [m1], by simp [m2], ?_, fun j p v hj hv => ?_⟩
          · rw [List.flatten_cons]
            unfold Rows
            exact ⟨us, vs.flatten, rfl, hsz, k1, m3⟩
          · cases j with
            | zero =>
              simp at hj hv
              subst hj; subst hv
              exact ⟨Nat.eq_of_beq_eq_true hb, e1, by rw [RL_length k1, hsz]⟩
            | succ j =>
              obtain ⟨a1, a2, a3⟩ := m4 j p v (by simpa using hj) (by simpa using hv)
              exact ⟨by omega, a2, a3⟩
        · cases h
      · cases h
    · cases h
theorem new_slice (h3 : Fits E w F a) (h4 : Sat c.w0 c.X E H S w) {e : TypeId} {sz : Nat} {L : List (List RV)} {cs : List Value} (hr : Rows E.Z w sz L cs) (hm : L.length ≤ maxLen) :
    ∃ E', C E' { w with heap := w.heap.push (.cells (List.toArray cs) e (0, 0)) } (.sl S.length) (.slice (some ⟨w.heap.size, 0, none⟩) L.length L.length) ∧ Fits E' { w with heap := w.heap.push (.cells (List.toArray cs) e (0, 0)) } F a ∧
      Sat c.w0 c.X E' H (S ++ [some ⟨e, sz, L⟩]) { w with heap := w.heap.push (.cells (List.toArray cs) e (0, 0)) } ∧ (∀ s, Inv s E w → s.n1 ≤ H.length → s.S1.length ≤ S.length → Inv s E' { w with heap := w.heap.push (.cells (List.toArray cs) e (0, 0)) }) := by
  have hs := stays_push E H S w (.cells (List.toArray cs) e (0, 0))
  have hl := Rows_length hr
  have hr' := Rows_mono (Z' := E.Z) (fun _ h => h) (fun b hb => hs.block b (h4.Z b hb)) hr
  refine ⟨{ E with V := E.V ++ [.slice (some ⟨w.heap.size, 0, none⟩) L.length L.length] }, ?_, h3.mono (le_V E _) (fun b hb => hs.block b (h4.Z b hb)), ?_, fun s inv _ hn => ?_⟩
  · unfold C
    exact ⟨by simp [← h4.lV], rfl⟩
  · refine h4.newV hs (e := ⟨e, sz, L⟩) (cs := cs) ⟨hl, .inr ⟨w.heap.size, L.length, List.toArray cs, rfl, Nat.zero_le _, by simp, Nat.le_refl _, hm, by simp [hl], by simp [← hl]⟩⟩ hr' (fun b hb => by simp [Value.ownBlock] at hb; omega)
  · refine inv.grow hs.size hs.block (fun _ _ _ hb => hb) (fun i e' v hi hv => ?_) (fun _ hz => hz)
    have hl : i < E.V.length := by
      have := (List.getElem?_eq_some_iff.1 hi).1
      rw [h4.lV]; omega
    have hv' : (E.V ++ [.slice (some ⟨w.heap.size, 0, none⟩) L.length L.length])[i]? = some v := hv
    rwa [List.getElem?_append_left hl] at hv'
theorem r_lit {t e : TypeId} {len : Nat} {ps : Array (Nat × Operand)} {y ye : Ty} {xs : List (Nat × AV)} {L : List (List RV)} (hT : TabOk c.P c.T) (hi : ops[i]? = some o) (hop : o.op = .buildSlice t len ps) (hd : o.dst = some d) (hn : Nat.blt d c.n = true) (hg : gOk ops F o.guard = some true) (hm : oOk m st = true) (hst : stLe st H.length S.length = true)
    (hx : evp F ps.toList = some xs) (hy : c.T.get t = some y) (hel : y.elem = some e) (hye : c.T.get e = some ye) (hL : litRows ye.size 0 xs = some L) (hlen : (Nat.beq L.length len && Nat.ble (len * ye.size) 16777216 && Nat.ble len 16777216) = true)
    (h : GR c ops k q st sch ((d, .sl S.length) :: F) H (S ++ [some ⟨e, ye.size, L⟩])) : GR c ops k q st ((i, m) :: sch) F H S := by
  refine gr_grow hi hd hn hg hm (fun E a w h3 h4 => ?_) (stLe_ok hst).1 (stLe_ok hst).2 h
  rw [Bool.and_eq_true, Bool.and_eq_true] at hlen
  have hlen1 : L.length = len := Nat.eq_of_beq_eq_true hlen.1.1
  have hlen2 := Nat.le_of_ble_eq_true hlen.1.2
  have hlen3 := Nat.le_of_ble_eq_true hlen.2
  obtain ⟨vs, e1, e2, e3, e4⟩ := litRows_ok hL (h3.evp hx)
  obtain ⟨ti, z, hti, hts, _, hz0, hzc⟩ := tyOf_zero (hT e ye hye)
  have hml : L.length ≤ maxLen := by
    unfold maxLen
    omega
  obtain ⟨E', m1, m2, m3, m4⟩ := new_slice (e := e) h3 h4 e3 hml
  refine ⟨E', _, _, ?_, m1, m2, m3, m4⟩
  have hps : (ps.map fun p => (p.1, a.eval p.2)).toList = ps.toList.map fun p => (p.1, a.eval p.2) := by simp
  have fill : ∀ A : Array Value, A.size = len * ye.size → Instr.fill (fun i => some (i * ye.size, ye.size)) A (ps.map fun p => (p.1, a.eval p.2)).toList = some (List.toArray vs.flatten) := by
    intro A hA
    have := fill_rows (sz := ye.size) (place := fun i => some (i * ye.size, ye.size)) (fun _ => rfl) (ps.toList.map fun p => (p.1, a.eval p.2)) vs 0 [] A.toList (by simp) (by simp [hA, ← e2, hlen1]) e1 e4
    rw [hps]
    simpa using this
  unfold execOp
  simp only [hop]
  unfold Instr.buildSlice
  simp only [Sem.run_bind, run_underlying_ (tyOf_elem (hT t y hy) hel), run_sizeOf_ hti, hts, Result.andThen_ok]
  rw [if_neg (by omega)]
  by_cases h0 : len * ye.size = 0
  · simp only [if_pos h0, Sem.run_bind, Sem.run_pure, Result.andThen_ok]
    rw [fill _ (by simp)]
    simp [newRow, hlen1]
  · simp only [if_neg h0, Sem.run_bind, run_zero_ hti hz0, Sem.run_pure, Result.andThen_ok]
    rw [fill _ (by simp)]
    simp [newRow, hlen1]
end
end Go.Proofs.Ytnenbopcoghmaaa.Kw
namespace Go.Proofs.Ytnenbopcoghmaaa.Kw
open Go
/-! ### append -/
section
variable {c : Ctx} {ops : Array Oper} {k : List Item} {q st : Option St} {i : Nat} {m : Md} {sch : List (Nat × Md)} {F : Fr} {H : Hp} {S : Sp} {o : Oper} {d : Nat} {r : AV} {E E' : Env} {a : Act} {w w' : World} {P : Program} {w0 : World} {X : Org} {Z : Nat → Prop}
theorem CAt_RL : ∀ {xs : List RV} {b o : Nat}, CAt Z w xs b o → ∃ us, RL Z w xs us ∧ ∀ (j : Nat) (u : Value), us[j]? = some u → w.cell? ⟨b, o + j, none⟩ = some u
  | [], b, o, _ => ⟨[], by unfold RL; rfl, fun j u h => by simp at h⟩
  | x :: xs, b, o, h => by
    unfold CAt at h
    obtain ⟨⟨u, h1, h2⟩, h3⟩ := h
    obtain ⟨us, h4, h5⟩ := CAt_RL h3
    refine ⟨u :: us, by unfold RL; exact ⟨u, us, rfl, h2, h4⟩, fun j v hj => ?_⟩
    cases j with
    | zero => simp at hj; subst hj; exact h1
    | succ j =>
      simp at hj
      have := h5 j v hj
      rwa [show o + 1 + j = o + (j + 1) from by omega] at this
theorem CRows_Rows {sz : Nat} : ∀ {L : List (List RV)} {b o : Nat}, CRows Z w sz L b o → ∃ us, Rows Z w sz L us ∧ ∀ (j : Nat) (u : Value), us[j]? = some u → w.cell? ⟨b, o + j, none⟩ = some u
  | [], b, o, _ => ⟨[], by unfold Rows; rfl, fun j u h => by simp at h⟩
  | x :: L, b, o, h => by
    unfold CRows at h
    obtain ⟨h1, h2, h3⟩ := h
    obtain ⟨us, k1, k2⟩ := CAt_RL h2
    obtain ⟨vs, m1, m2⟩ := CRows_Rows h3
    have hl := RL_length k1
    refine ⟨us ++ vs, by unfold Rows; exact ⟨us, vs, rfl, h1, k1, m1⟩, fun j v hj => ?_⟩
    rw [List.getElem?_append] at hj
    split at hj
    · exact k2 j v hj
    · rename_i hlt
      have := m2 (j - us.length) v hj
      rwa [show o + sz + (j - us.length) = o + j from by omega] at this
theorem Rows_ones {sz : Nat} : ∀ {L : List (List RV)} {us : List Value}, Rows Z w sz L us → ∀ u ∈ us, u.oneCell' = true
  | [], us, h, u, hu => by unfold Rows at h; subst h; simp at hu
  | r :: L, us, h, u, hu => by
    unfold Rows at h
    obtain ⟨x, y, rfl, _, h2, h3⟩ := h
    rcases List.mem_append.1 hu with hu | hu
    · exact RL_one h2 u hu
    · exact Rows_ones h3 u hu
/-- What is appended: an own slice, or one that is read. -/
def srcRows (S : Sp) : AV → Option (Nat × List (List RV))
  | .sl k => match S[k]? with
    | some (some e) => some (e.sz, e.L)
    | _ => none
  | .r (.rs sz L) => some (sz, L)
  | _ => none
theorem src_ok (h : Sat w0 X E H S w) {x : AV} {u : Value} {sz : Nat} {L : List (List RV)} (hs : srcRows S x = some (sz, L)) (hx : C E w x u) :
    ∃ us cp, Rows E.Z w sz L us ∧ ((∃ b o, u = .slice (some ⟨b, o, none⟩) L.length cp ∧ ∀ (j : Nat) (v : Value), us[j]? = some v → w.cell? ((⟨b, o, none⟩ : Addr).add j) = some v) ∨ (L = [] ∧ ∃ A, u = .slice A 0 cp)) := by
  have add : ∀ (b o j : Nat), (⟨b, o, none⟩ : Addr).add j = ⟨b, o + j, none⟩ := fun b o j => by unfold Addr.add; split <;> simp_all
  unfold srcRows at hs
  split at hs
  · split at hs
    · rename_i k e he
      cases hs
      obtain ⟨v, cs, h1, h2, h3⟩ := h.sl _ _ he
      unfold C at hx
      rw [h1] at hx
      have := hx.1
      cases this
      rcases own_cells h2 with ⟨rfl, h0⟩ | ⟨b, cap, rfl, _, _, _, hc⟩
      · exact ⟨cs, 0, h3, .inr ⟨List.eq_nil_of_length_eq_zero h0, none, rfl⟩⟩
      · exact ⟨cs, cap, h3, .inl ⟨b, 0, rfl, fun j v hj => by rw [add, Nat.zero_add]; exact hc j v hj⟩⟩
    · cases hs
  · cases hs
    unfold C CR at hx
    obtain ⟨A, cp, rfl, _, _, h3⟩ := hx
    rcases h3 with rfl | ⟨b, o, rfl, _, hc⟩
    · exact ⟨[], cp, by unfold Rows; rfl, .inr ⟨rfl, A, rfl⟩⟩
    · obtain ⟨us, k1, k2⟩ := CRows_Rows hc
      exact ⟨us, cp, k1, .inl ⟨b, o, rfl, fun j v hj => by rw [add]; exact k2 j v hj⟩⟩
  · cases hs
theorem run_append_none' {base : Nat} {t ty e : TypeId} {ti : TypeInfo} {size : Nat} (ht : P.underlying t = some (.slice e)) (hi : P.info? e = some ti)
    {v : Value} {n : Nat} {xs : List Value} (hown : w.ownsRow base e size v n xs) {A : Option Addr} {cp : Nat} :
    (Builtin.append_ #[t, t] ty #[v, .slice A 0 cp]).run P w = .ok v w := by
  rcases hown.2 with ⟨rfl, rfl⟩ | ⟨g, cap, cur, rfl, _, _, hnc, _⟩ <;> cases A
  · simp [Builtin.append_, run_underlying ht, Go.sizeOf, typeInfo, hi, Builtin.lenOf, Builtin.firstCells, loadCells, loadCellsFrom]
  · simp [Builtin.append_, run_underlying ht, Go.sizeOf, typeInfo, hi, Builtin.lenOf, Builtin.firstCells, loadCells, loadCellsFrom]
  · simp [Builtin.append_, run_underlying ht, Go.sizeOf, typeInfo, hi, Builtin.lenOf, Builtin.firstCells, loadCells, loadCellsFrom, hnc, storeCells]
  · simp [Builtin.append_, run_underlying ht, Go.sizeOf, typeInfo, hi, Builtin.lenOf, Builtin.firstCells, loadCells, loadCellsFrom, hnc, storeCells]
theorem fits_cut {v' : Value} {kn : Nat} (hF : Fits E w F a) (hz : ∀ b, E.Z b → w'.heap[b]? = w.heap[b]?) : Fits { E with V := E.V.set kn v' } w' (cutF kn F) a := by
  refine ⟨fun d y hy => ?_⟩
  obtain ⟨x, h1, rfl⟩ := cutF_get hy
  obtain ⟨u, h2, h3⟩ := hF.get d x h1
  exact ⟨u, h2, C_cut (C_mono (Env.le_refl E) hz _ _ h3)⟩
theorem own_one {base : Nat} {e : TypeId} {size n : Nat} {v : Value} {xs : List Value} (h : w.ownsRow base e size v n xs) : v.oneCell' = true := by
  rcases h.2 with ⟨rfl, _⟩ | ⟨g, cap, cur, rfl, _⟩ <;> rfl
/-- APPEND to a slice of the call's own: whoever else led to it is forgotten. -/
theorem r_append {t e : TypeId} {y ye : Ty} {x z : Operand} {kn sz : Nat} {se : SE} {zv : AV} {L2 : List (List RV)} (hT : TabOk c.P c.T) (hi : ops[i]? = some o) (hop : o.op = .call { callee := .builtin .append, args := #[x, z], argTypes := #[t, t] }) (hd : o.dst = some d) (hn : Nat.blt d c.n = true) (hg : gOk ops F o.guard = some true)
    (hx : ev F x = some (.sl kn)) (hS : S[kn]? = some (some se)) (hz : ev F z = some zv) (hzv : srcRows S zv = some (sz, L2)) (hy : c.T.get t = some y) (hel : y.elem = some e) (hye : c.T.get e = some ye) (hse : se.e = e) (hs1 : ye.size = se.sz) (hs2 : sz = se.sz) (hpos : Nat.blt 0 ye.size = true) (hzl : Nat.beq ye.zero.length ye.size = true)
    (hlen : se.L.length + L2.length ≤ maxLen ∧ (se.L.length + L2.length) * ye.bytes ≤ 140737488355328)
    (h : GR c ops k q none sch ((d, .sl kn) :: cutF kn F) (cutH kn H) (S.set kn (some ⟨se.e, se.sz, se.L ++ L2⟩))) : GR c ops k q st ((i, .l) :: sch) F H S := by
  intro E a w h1 h2 h3 h4 h5
  subst hs2
  subst hse
  obtain ⟨v, xs, k1, k2, k3⟩ := h4.sl kn se hS
  have hv := h3.ev hx
  unfold C at hv
  rw [k1] at hv
  obtain ⟨hv, _⟩ := hv
  simp only [Option.some.injEq] at hv
  obtain ⟨us, cp, m1, m2⟩ := src_ok h4 hzv (h3.ev hz)
  obtain ⟨ti, z0, hti, hts, htb, hz0, hzc⟩ := tyOf_zero (hT se.e ye hye)
  have hls := Rows_length m1
  have hzs : z0.cells.size = ye.size := by
    rw [← Array.length_toList, hzc, Nat.eq_of_beq_eq_true hzl]
  have hkl : kn < S.length := (List.getElem?_eq_some_iff.1 hS).1
  have fin : ∀ (v' : Value) (w' : World), (execOp a.eval o).run c.P w = .ok (.value v') w' → w'.ownsRow 0 se.e se.sz v' (se.L ++ L2).length (xs ++ us) → w.grownBy w' v.ownBlock → (v'.ownBlock = v.ownBlock ∨ v'.ownBlock = some w.heap.size) → Seq c.P ops (RQ c k) (Sx q) ((i, .l) :: sch) a w := by
    intro v' w' hr ho hgr hat
    have hzz : ∀ b, E.Z b → w'.heap[b]? = w.heap[b]? := fun b hbz => hgr.block b (h4.Z b hbz) (fun e1 => (h4.bV kn se v b hS k1 e1.symm).2 hbz)
    have hsat := h4.setV (e' := ⟨se.e, se.sz, se.L ++ L2⟩) hS k1 hgr (fun b hb => by
      rcases hat with ha | ha
      · exact .inl (ha ▸ hb)
      · rw [ha] at hb; cases hb; exact .inr (Nat.le_refl _)) ho (Rows_append (Rows_mono (fun _ h => h) hzz k3) (Rows_mono (fun _ h => h) hzz m1))
    refine seq_value hi (gOk_ok (o := o) h3 hg) hr (.inr rfl) ?_
    rw [hd]
    refine h { E with V := E.V.set kn v' } _ w' ?_ ?_ ((fits_cut h3 hzz).put ?_ (by rw [h1]; exact hn)) hsat (fun s hs => by cases hs)
    · rw [(put_size _ _ _).1]; exact h1
    · rw [(put_size _ _ _).2]; exact h2
    · unfold C
      refine ⟨?_, own_one ho⟩
      show (E.V.set kn v')[kn]? = some v'
      rw [List.getElem?_set_self (by rw [h4.lV]; exact hkl)]
  rcases m2 with ⟨b, of, hu, hc⟩ | ⟨rfl, A, hu⟩
  · obtain ⟨v', w', hr, ho, hgr, _, hat⟩ := run_append_own_at (P := c.P) w 0 t o.type se.e ti z0 se.sz ye.bytes (tyOf_elem (hT t y hy) hel) hti hz0 (hts.trans hs1) htb (hzs.trans hs1) (by rw [← hs1]; exact Nat.le_of_ble_eq_true hpos)
      v se.L.length xs k2 ⟨b, of, none⟩ L2.length cp us hls hc (Rows_ones m1) hlen.1 hlen.2 (Nat.zero_le _)
    refine fin v' w' ?_ (by rw [List.length_append]; exact ho) hgr hat
    unfold execOp
    simp only [hop, resolve, invoke, builtin, Sem.run_bind, Sem.run_pure, Result.andThen_ok, List.map_toArray, List.map_cons, List.map_nil, ← hv, hu, hr]
  · have hr := run_append_none' (P := c.P) (ty := o.type) (tyOf_elem (hT t y hy) hel) hti k2 (A := A) (cp := cp)
    have : us = [] := List.eq_nil_of_length_eq_zero (by simpa using hls)
    subst this
    refine fin v w ?_ (by simpa using k2) ⟨rfl, rfl, rfl, Nat.le_refl _, fun _ _ _ => rfl⟩ (.inl rfl)
    unfold execOp
    simp only [hop, resolve, invoke, builtin, Sem.run_bind, Sem.run_pure, Result.andThen_ok, List.map_toArray, List.map_cons, List.map_nil, ← hv, hu, hr]
/-- A nil slice is taken up as one of the call's own. -/
theorem r_adopt {e : TypeId} {sz : Nat} (hx : F.get d = some (.r (.v (.slice none 0 0)))) (hst : stLe st H.length S.length = true) (h : GR c ops k q st sch ((d, .sl S.length) :: F) H (S ++ [some ⟨e, sz, []⟩])) : GR c ops k q st sch F H S := by
  intro E a w h1 h2 h3 h4 h5
  have hs : Stays E H S w w := ⟨Nat.le_refl _, fun _ _ => rfl, rfl, rfl, rfl⟩
  have hsat := h4.newV hs (e := ⟨e, sz, []⟩) (v := .slice none 0 0) (cs := []) ⟨by simp, .inl ⟨rfl, rfl⟩⟩ (by unfold Rows; rfl) (fun b hb => by simp [Value.ownBlock] at hb)
  have hF : Fits { E with V := E.V ++ [.slice none 0 0] } w ((d, .sl S.length) :: F) a := by
    refine Fits.turn (h3.mono (le_V E _) (fun _ _ => rfl)) hx (fun u hu => ?_)
    unfold C CR at hu
    unfold C
    refine ⟨?_, by rw [hu.1]; rfl⟩
    rw [hu.1]
    show (E.V ++ [Value.slice none 0 0])[S.length]? = _
    simp [← h4.lV]
  refine h _ a w h1 h2 hF hsat (fun s hs' => ⟨(h5 s hs').1, ?_⟩)
  refine (h5 s hs').2.grow (Nat.le_refl _) (fun _ _ => rfl) (fun _ _ _ hb => hb) (fun i e' v hi' hv => ?_) (fun _ hz => hz)
  have hl : i < E.V.length := by
    have := (List.getElem?_eq_some_iff.1 hi').1
    have := (stLe_ok hst).2 s hs'
    rw [h4.lV]; omega
  have hv' : (E.V ++ [Value.slice none 0 0])[i]? = some v := hv
  rwa [List.getElem?_append_left hl] at hv'
theorem gi_adopt {e : TypeId} {sz : Nat} (d : Nat) (hx : F.get d = some (.r (.v (.slice none 0 0)))) (h : GI c k ((d, .sl S.length) :: F) H (S ++ [some ⟨e, sz, []⟩])) : GI c k F H S := by
  intro E a w h1 h2 h3 h4
  exact r_adopt (c := c) (ops := #[]) (q := none) (st := none) (sch := []) (k := k) hx rfl (r_end h) E a w h1 h2 h3 h4 (fun s hs => by cases hs)
end
end Go.Proofs.Ytnenbopcoghmaaa.Kw
namespace Go.Proofs.Ytnenbopcoghmaaa.Kw
open Go
/-! ### a store to an element of an own slice -/
def setR : List RV → Nat → List RV → List RV
  | cells, _, [] => cells
  | cells, off, c :: cs => setR (cells.set off c) (off + 1) cs
theorem setR_length : ∀ (vs us : List RV) (off : Nat), (setR us off vs).length = us.length
  | [], us, off => rfl
  | v :: vs, us, off => by unfold setR; rw [setR_length vs]; simp
theorem setV_append {b : List Value} : ∀ {vs a : List Value} {off : Nat}, off + vs.length ≤ a.length → setV (a ++ b) off vs = setV a off vs ++ b
  | [], a, off, _ => rfl
  | v :: vs, a, off, h => by
    simp only [List.length_cons] at h
    unfold setV
    rw [List.set_append_left off v (by omega), setV_append (by simp; omega)]
theorem setV_skip {a : List Value} : ∀ {vs b : List Value} {o : Nat}, setV (a ++ b) (a.length + o) vs = a ++ setV b o vs
  | [], b, o => rfl
  | v :: vs, b, o => by
    unfold setV
    rw [List.set_append_right _ _ (by omega), show a.length + o - a.length = o from by omega, show a.length + o + 1 = a.length + (o + 1) from by omega, setV_skip]
theorem setV_take {m : Nat} : ∀ {vs us : List Value} {o : Nat}, (setV us o vs).take m = setV (us.take m) o vs
  | [], us, o => rfl
  | v :: vs, us, o => by
    unfold setV
    rw [setV_take, List.take_set]
section
variable {c : Ctx} {ops : Array Oper} {k : List Item} {q st : Option St} {i : Nat} {m : Md} {sch : List (Nat × Md)} {F : Fr} {H : Hp} {S : Sp} {o : Oper} {d : Nat} {r : AV} {E E' : Env} {a : Act} {w w' : World} {P : Program} {w0 : World} {X : Org} {Z : Nat → Prop}
theorem RL_set : ∀ {xs : List RV} {us : List Value} {i : Nat} {x : RV} {u : Value}, RL Z w xs us → CR Z w x u → RL Z w (xs.set i x) (us.set i u)
  | [], us, i, x, u, h, _ => by unfold RL at h; subst h; simp; unfold RL; rfl
  | y :: xs, us, i, x, u, h, hx => by
    unfold RL at h
    obtain ⟨v, r, rfl, h2, h3⟩ := h
    cases i with
    | zero => simp; unfold RL; exact ⟨u, r, rfl, hx, h3⟩
    | succ i => simp; unfold RL; exact ⟨v, _, rfl, h2, RL_set h3 hx⟩
theorem RL_setR : ∀ {rs xs : List RV} {vs us : List Value} {off : Nat}, RL Z w xs us → RL Z w rs vs → RL Z w (setR xs off rs) (setV us off vs)
  | [], xs, vs, us, off, h, h' => by unfold RL at h'; subst h'; exact h
  | y :: rs, xs, vs, us, off, h, h' => by
    unfold RL at h'
    obtain ⟨v, r, rfl, h2, h3⟩ := h'
    unfold setR setV
    exact RL_setR (RL_set h h2) h3
theorem Rows_setR {sz : Nat} {rs : List RV} {vs : List Value} {off : Nat} (hrs : RL Z w rs vs) (hle : off + vs.length ≤ sz) : ∀ {L : List (List RV)} {us : List Value} {j : Nat} {row : List RV}, Rows Z w sz L us → L[j]? = some row → Rows Z w sz (L.set j (setR row off rs)) (setV us (j * sz + off) vs)
  | [], us, j, row, _, hj => by simp at hj
  | x :: L, us, j, row, h, hj => by
    unfold Rows at h
    obtain ⟨x1, y1, rfl, h1, h2, h3⟩ := h
    have hl := RL_length h2
    cases j with
    | zero =>
      simp at hj
      subst hj
      rw [List.set_cons_zero, Nat.zero_mul, Nat.zero_add, setV_append (by omega)]
      unfold Rows
      exact ⟨_, y1, rfl, (setR_length _ _ _).trans h1, RL_setR h2 hrs, h3⟩
    | succ j =>
      simp at hj
      rw [List.set_cons_succ, show (j + 1) * sz + off = x1.length + (j * sz + off) from by rw [Nat.add_mul]; omega, setV_skip]
      unfold Rows
      exact ⟨x1, _, rfl, h1, h2, Rows_setR hrs hle h3 hj⟩
theorem set_same {α : Type} : ∀ {l : List α} {i : Nat} {x : α}, l[i]? = some x → l.set i x = l
  | [], i, x, h => by simp at h
  | y :: l, i, x, h => by
    cases i with
    | zero => simp at h; subst h; rfl
    | succ i => simp at h; rw [List.set_cons_succ, set_same h]
/-- An own slice's places are written. -/
theorem Sat.updV (h : Sat w0 X E H S w) {k : Nat} {e e' : SE} {v : Value} {cs : List Value} (hk : S[k]? = some (some e)) (hv : E.V[k]? = some v) (hg : w.grownBy w' v.ownBlock)
    (ho : w'.ownsRow 0 e'.e e'.sz v e'.L.length cs) (hr : Rows E.Z w' e'.sz e'.L cs) : Sat w0 X E H (S.set k (some e')) w' := by
  have h' := h.setV (e' := e') (v' := v) hk hv hg (fun b hb => .inl hb) ho hr
  rw [set_same hv] at h'
  have hz : ∀ b, E.Z b → w'.heap[b]? = w.heap[b]? := fun b hbz => hg.block b (h.Z b hbz) (fun e1 => (h.bV k e v b hk hv e1.symm).2 hbz)
  refine ⟨h.lB, h'.lV, fun i t ds hi => ?_, h'.sl, h'.bB, h'.bV, h'.BB, h'.BV, h'.VV, h'.Z, h'.old, h'.size, h'.os, h'.tape, h'.output, h'.zin, h'.zup⟩
  obtain ⟨b, us, k1, k2, k3, k4⟩ := h.box i t ds hi
  exact ⟨b, us, k1, (hg.block b (h.bB i b k1).1 (fun e1 => h.BV i k e v b k1 hk hv e1.symm)).trans k2, CL_mono (Env.le_refl E) hz _ _ k3, k4⟩
theorem r_storeS {t : TypeId} {y : Ty} {x z : Operand} {kn sz j off : Nat} {se : SE} {row rs : List RV} {v : AV} {ds : List AV} (hT : TabOk c.P c.T) (hi : ops[i]? = some o) (hop : o.op = .store t x z) (hd : o.dst = none) (hg : gOk ops F o.guard = some true)
    (hx : ev F x = some (.el kn sz j off)) (hz : ev F z = some v) (hv : cellsA v = some ds) (hrs : rvL ds = some rs) (hS : S[kn]? = some (some se)) (hsz : se.sz = sz) (hy : c.T.get t = some y) (hl : Nat.beq ds.length y.size = true) (hle : Nat.ble (off + y.size) se.sz = true) (hr : se.L[j]? = some row)
    (h : GR c ops k q none sch F H (S.set kn (some ⟨se.e, se.sz, se.L.set j (setR row off rs)⟩))) : GR c ops k q st ((i, .l) :: sch) F H S := by
  intro E a w h1 h2 h3 h4 h5
  subst hsz
  have hl1 : ds.length = y.size := Nat.eq_of_beq_eq_true hl
  have hl2 := Nat.le_of_ble_eq_true hle
  obtain ⟨vs, e1, e2, e3⟩ := cellsA_ok hv (h3.ev hz)
  obtain ⟨g1, g2⟩ := rvL_ok hrs e2
  have hvs : vs.length = y.size := (CL_length e2).trans hl1
  obtain ⟨u, xs, k1, k2, k3⟩ := h4.sl kn se hS
  have hp := h3.ev hx
  unfold C at hp
  obtain ⟨b, n, cap, hub, hpv⟩ := hp
  rw [k1] at hub
  cases hub
  have hj := (List.getElem?_eq_some_iff.1 hr).1
  obtain ⟨hxl, hc⟩ := k2
  rcases hc with ⟨hc, _⟩ | ⟨g, cp, cur, hc, h0, hh, hn1, hn2, hcs, hct⟩
  · cases hc
  · cases hc
    have hroom : j * se.sz + off + y.size ≤ cur.toList.length := by
      rw [Array.length_toList, hcs]
      have : (j + 1) * se.sz ≤ cap * se.sz := Nat.mul_le_mul_right _ (by omega)
      rw [Nat.add_mul] at this
      omega
    obtain ⟨w', m1, m2, m3, m4, m5, m6, m7⟩ := run_storeVar (hT t y hy) (b := b) (o := j * se.sz + off) (us := cur.toList) (by simpa using hh) e1 hvs e3 hroom
    have hgr : w.grownBy w' (Value.ownBlock (.slice (some ⟨b, 0, none⟩) se.L.length cap)) := ⟨m5, m6, m7, by omega, fun kk _ hne => m3 kk (fun e => hne (by simp [Value.ownBlock, e]))⟩
    have hzz : ∀ b', E.Z b' → w'.heap[b']? = w.heap[b']? := fun b' hbz => m3 b' (fun e => (h4.bV kn se _ b hS k1 rfl).2 (e ▸ hbz))
    have hrows := Rows_setR g1 (off := off) (by omega) k3 hr
    have hxs : xs = cur.toList.take (se.L.length * se.sz) := hct.symm
    have hsat := h4.updV (w' := w') (e' := ⟨se.e, se.sz, se.L.set j (setR row off rs)⟩) (cs := setV xs (j * se.sz + off) vs) hS k1 hgr ⟨by rw [setV_length, hxl]; simp, .inr ⟨b, cap, List.toArray (setV cur.toList (j * se.sz + off) vs), by simp, h0, m2, by simpa using hn1, hn2, by simp [setV_length, hcs], by simp [setV_take, hxs]⟩⟩ (Rows_mono (fun _ h => h) hzz hrows)
    refine seq_skip hi (gOk_ok (o := o) h3 hg) (w' := w') ?_ (.inr rfl) ?_
    · unfold execOp
      simp only [hop, hpv, Instr.storeAt, Instr.sureAddr, pure_bind, Sem.run_bind, m1, Result.andThen_ok, Sem.run_pure]
    · rw [hd]
      exact h E a w' h1 h2 (h3.mono (Env.le_refl E) hzz) hsat (fun s hs => by cases hs)
end
end Go.Proofs.Ytnenbopcoghmaaa.Kw
namespace Go.Proofs.Ytnenbopcoghmaaa.Kw
open Go Go.ChangeShapes Go.WideShapes Go.Deep
/-! ### what comes in, by its type -/
def Shaped (P : Program) : Nat → TypeId → List RV → Prop
  | 0, _, _ => False
  | n + 1, t, rv => match P.underlying t with
    | some (.int k) => ∃ m, rv = [.v (.int k m)] ∧ (Lit.int k m).wf = true
    | some .bool => ∃ b, rv = [.v (.bool b)]
    | some .string => ∃ s : ByteArray, rv = [.v (.string s)] ∧ s.size ≤ maxLen
    | some (.slice e) => ∃ L, rv = [.rs (P.cellsOf e) L] ∧ L.length ≤ maxLen ∧ ∀ row ∈ L, Shaped P n e row
    | some (.struct fs) => ∃ parts : List (List RV), rv = parts.flatten ∧ parts.length = fs.toList.length ∧ ∀ (i : Nat) (f : Field), fs.toList[i]? = some f → ∃ p, parts[i]? = some p ∧ Shaped P n f.type p
    | _ => False
def contig (P : Program) (tot : Nat) : Nat → List Field → Bool
  | o, [] => Nat.beq o tot
  | o, f :: fs => Nat.beq f.offset o && contig P tot (o + P.cellsOf f.type) fs
def okT (P : Program) : Nat → TypeId → Bool
  | 0, _ => false
  | n + 1, t => match P.underlying t with
    | some (.int _) => Nat.beq (P.cellsOf t) 1
    | some .bool => Nat.beq (P.cellsOf t) 1
    | some .string => Nat.beq (P.cellsOf t) 1
    | some (.slice e) => Nat.beq (P.cellsOf t) 1 && okT P n e && Nat.ble 1 (P.cellsOf e)
    | some (.struct fs) => contig P (P.cellsOf t) 0 fs.toList && fs.toList.all fun f => okT P n f.type
    | _ => false
section
variable {H : Type} {enc : TypeId × Value → H} {P : Program} {w : World} {base : Nat} {spare : Nat → Bool} {held : Bool} {Z : Nat → Prop}
theorem RL_app : ∀ {p q : List RV} {a b : List Value}, RL Z w p a → RL Z w q b → RL Z w (p ++ q) (a ++ b)
  | [], q, a, b, h, h' => by unfold RL at h; subst h; exact h'
  | x :: p, q, a, b, h, h' => by
    unfold RL at h
    obtain ⟨u, r, rfl, h1, h2⟩ := h
    show RL Z w (x :: (p ++ q)) (u :: (r ++ b))
    unfold RL
    exact ⟨u, r ++ b, rfl, h1, RL_app h2 h'⟩
theorem fields_of {n k tot : Nat} {cs : List Value} (ih : ∀ (t : TypeId) (cs : List Value) (x : DataW H × List MemPlace), okT P k t = true → DataW.trod enc P w base spare held n t cs = some x → ∃ rv, RL Z w rv cs ∧ Shaped P k t rv) :
    ∀ (fs : List Field) (o : Nat), contig P tot o fs = true → cs.length = tot → (∀ f ∈ fs, okT P k f.type = true) → (∀ f ∈ fs, ∃ x, DataW.trod enc P w base spare held n f.type ((cs.drop f.offset).take (P.cellsOf f.type)) = some x) →
      ∃ parts : List (List RV), RL Z w parts.flatten (cs.drop o) ∧ parts.length = fs.length ∧ ∀ (i : Nat) (f : Field), fs[i]? = some f → ∃ p, parts[i]? = some p ∧ Shaped P k f.type p
  | [], o, hc, hl, _, _ => by
    have := Nat.eq_of_beq_eq_true hc
    subst this
    refine ⟨[], ?_, rfl, fun i f h => by simp at h⟩
    rw [← hl, List.drop_length]
    unfold RL; rfl
  | f :: fs, o, hc, hl, hk, hx => by
    unfold contig at hc
    rw [Bool.and_eq_true] at hc
    obtain ⟨parts, h1, h2, h3⟩ := fields_of ih fs _ hc.2 hl (fun g hg => hk g (by simp [hg])) (fun g hg => hx g (by simp [hg]))
    obtain ⟨x, h4⟩ := hx f (by simp)
    rw [Nat.eq_of_beq_eq_true hc.1] at h4
    obtain ⟨p, h5, h6⟩ := ih f.type _ x (hk f (by simp)) h4
    refine ⟨p :: parts, ?_, by simp [h2], fun i g hg => ?_⟩
    · have := RL_app h5 h1
      rw [← List.drop_drop, List.take_append_drop] at this
      simpa using this
    · cases i with
      | zero => simp at hg; subst hg; exact ⟨p, by simp, h6⟩
      | succ i => simp at hg; obtain ⟨q, h7, h8⟩ := h3 i g hg; exact ⟨q, by simpa using h7, h8⟩
theorem rows_build {sz b : Nat} {Q : List RV → Prop} : ∀ (len o : Nat), (∀ i, i < len → ∃ rv : List RV, rv.length = sz ∧ CAt Z w rv b (o + i * sz) ∧ Q rv) → ∃ L : List (List RV), L.length = len ∧ CRows Z w sz L b o ∧ ∀ row ∈ L, Q row
  | 0, o, _ => ⟨[], rfl, by unfold CRows; trivial, fun r h => by simp at h⟩
  | len + 1, o, h => by
    obtain ⟨rv, h1, h2, h3⟩ := h 0 (by omega)
    obtain ⟨L, h4, h5, h6⟩ := rows_build len (o + sz) (fun i hi => by
      obtain ⟨rv, k1, k2, k3⟩ := h (i + 1) (by omega)
      refine ⟨rv, k1, ?_, k3⟩
      rw [show o + sz + i * sz = o + (i + 1) * sz from by rw [Nat.add_mul]; omega]
      exact k2)
    refine ⟨rv :: L, by simp [h4], ?_, fun r hr => ?_⟩
    · unfold CRows
      exact ⟨h1, by simpa using h2, h5⟩
    · rcases List.mem_cons.1 hr with rfl | hr
      · exact h3
      · exact h6 r hr
theorem one_cell {k : IntKind} {m : Int} : RL Z w [.v (.int k m)] [.int k m] := by
  unfold RL; exact ⟨_, _, rfl, by unfold CR; exact ⟨rfl, rfl⟩, by unfold RL; rfl⟩
theorem cell_lt {a : Addr} {v : Value} (h : w.cell? a = some v) : a.block < w.heap.size ∧ a.spot = none := by
  unfold World.cell? at h
  split at h
  · rename_i c t s hh
    refine ⟨(Array.getElem?_eq_some_iff.1 hh).1, ?_⟩
    split at h
    · cases h
    · rename_i hs; simpa using hs
  · cases h
theorem shaped_of (hZ : ∀ b, b < w.heap.size → Z b) : ∀ (k n : Nat) (t : TypeId) (cs : List Value) (x : DataW H × List MemPlace), okT P k t = true → DataW.trod enc P w base spare held n t cs = some x → ∃ rv, RL Z w rv cs ∧ Shaped P k t rv
  | 0, n, t, cs, x, h, _ => by simp [okT] at h
  | k + 1, n, t, cs, x, h, ht => by
    unfold okT at h
    unfold Shaped
    cases hu : P.underlying t with
    | none => simp [hu] at h
    | some d =>
      cases d with
      | int kk =>
        obtain ⟨m, rfl, _, hw⟩ := DataW.trod_int hu ht
        exact ⟨_, one_cell, m, rfl, hw⟩
      | bool =>
        obtain ⟨b, rfl, _⟩ := DataW.trod_bool hu ht
        exact ⟨[.v (.bool b)], by unfold RL; exact ⟨_, _, rfl, by unfold CR; exact ⟨rfl, rfl⟩, by unfold RL; rfl⟩, b, rfl⟩
      | string =>
        obtain ⟨s, rfl, _, hs⟩ := DataW.trod_string hu ht
        exact ⟨[.v (.string s)], by unfold RL; exact ⟨_, _, rfl, by unfold CR; exact ⟨rfl, rfl⟩, by unfold RL; rfl⟩, s, rfl, hs⟩
      | slice e =>
        simp only [hu, Bool.and_eq_true] at h
        obtain ⟨⟨_, hk⟩, hpos⟩ := h
        have hpos := Nat.le_of_ble_eq_true hpos
        rcases open_slice hu ht with ⟨rfl, _⟩ | ⟨a, len, cap, m, n', D, Pl, rfl, _, hl, hm, hmm, _, hi⟩
        · refine ⟨[.rs (P.cellsOf e) []], ?_, [], rfl, Nat.zero_le _, fun r h => by simp at h⟩
          unfold RL
          refine ⟨_, _, rfl, ?_, by unfold RL; rfl⟩
          unfold CR
          exact ⟨none, 0, rfl, Nat.le_refl _, Nat.zero_le _, .inl rfl⟩
        · have hlm : len ≤ m := by rw [hmm]; split <;> omega
          have cells : ∀ i, i < len → ∃ rv : List RV, rv.length = P.cellsOf e ∧ CAt Z w rv a.block (a.off + i * P.cellsOf e) ∧ Shaped P k e rv := by
            intro i hi'
            obtain ⟨cs', h1, h2⟩ := hi i (by omega)
            obtain ⟨_, h3, h4⟩ := World.cells?_some h1
            obtain ⟨rv, h5, h6⟩ := shaped_of hZ k n' e cs' _ hk h2
            refine ⟨rv, by rw [← h3]; exact (RL_length h5).symm, RL_CAt h5 (fun j u hu' => ?_), h6⟩
            have hj : j < P.cellsOf e := by rw [← h3]; exact (List.getElem?_eq_some_iff.1 hu').1
            have h7 := h4 j hj
            rw [hu'] at h7
            have h8 := (cell_lt h7).2
            have : (a.add (i * P.cellsOf e)).add j = ⟨a.block, a.off + i * P.cellsOf e + j, none⟩ := by
              have e1 : ∀ (b : Addr) (q : Nat), (b.add q).block = b.block ∧ (b.add q).off = b.off + q := fun b q => by unfold Addr.add; split <;> simp_all
              generalize hx : (a.add (i * P.cellsOf e)).add j = y at h8
              have := e1 (a.add (i * P.cellsOf e)) j
              have := e1 a (i * P.cellsOf e)
              cases y
              simp_all
            rw [← this]; exact h7
          obtain ⟨L, h1, h2, h3⟩ := rows_build len a.off cells
          refine ⟨[.rs (P.cellsOf e) L], ?_, L, rfl, by omega, h3⟩
          unfold RL
          refine ⟨_, _, rfl, ?_, by unfold RL; rfl⟩
          unfold CR
          refine ⟨some a, cap, by rw [h1], by omega, hm, ?_⟩
          rcases Nat.eq_zero_or_pos len with h0 | h0
          · left; subst h0; exact List.eq_nil_of_length_eq_zero h1
          · right
            obtain ⟨cs', k1, k2⟩ := hi 0 (by omega)
            obtain ⟨_, k3, k4⟩ := World.cells?_some k1
            have k5 := k4 0 hpos
            rw [List.getElem?_eq_getElem (by omega)] at k5
            have e0 : (a.add (0 * P.cellsOf e)).add 0 = a := by simp [Addr.add]
            rw [e0] at k5
            obtain ⟨k6, k7⟩ := cell_lt k5
            refine ⟨a.block, a.off, ?_, hZ _ k6, h2⟩
            cases a
            simp at k7
            subst k7
            rfl
      | struct fs =>
        simp only [hu, Bool.and_eq_true, List.all_eq_true] at h
        obtain ⟨xs, n', _, _, hl, hlen, hf⟩ := DataW.trod_struct hu ht
        obtain ⟨parts, h1, h2, h3⟩ := fields_of (fun t cs x => shaped_of hZ k n' t cs x) fs.toList 0 h.1 hl h.2 (fun f hfm => by
          obtain ⟨i, hi⟩ := List.getElem?_of_mem hfm
          have h4 := hf i f (by simpa using hi)
          have : i < xs.length := by rw [hlen]; have := (List.getElem?_eq_some_iff.1 hi).1; simpa using this
          rw [List.getElem?_eq_getElem this] at h4
          exact ⟨_, h4⟩)
        exact ⟨parts.flatten, by simpa using h1, parts, rfl, h2, h3⟩
      | _ => simp [hu] at h
end
end Go.Proofs.Ytnenbopcoghmaaa.Kw
namespace Go.Proofs.Ytnenbopcoghmaaa.Kw
open Go Go.ChangeShapes Go.WideShapes Go.ChangeAt Go.RowKit
/-! ### from a law's contract to its row -/
theorem Sat.below {w0 w : World} {Z : Nat → Prop} {E : Env} {H : Hp} {S : Sp} (h : Sat w0 ⟨fun _ => False, Z⟩ E H S w) : Below w0.heap.size w0 w :=
  ⟨h.os, h.tape, h.output, h.size, fun k hk => h.old k hk (fun h => h)⟩
abbrev Zof (w : World) : Nat → Prop := fun b => b < w.heap.size
section
variable {H : Type} {enc : TypeId × Value → H} {P : Program} {w : World} {base : Nat} {spare : Nat → Bool} {held : Bool}
theorem CL_of_RL {E : Env} : ∀ {rv : List RV} {us : List Value}, RL E.Z w rv us → CL E w (rv.map .r) us
  | [], us, h => by unfold RL at h; unfold List.map CL; exact h
  | x :: rv, us, h => by
    unfold RL at h
    obtain ⟨u, r, rfl, h1, h2⟩ := h
    show CL E w (.r x :: rv.map .r) (u :: r)
    unfold CL
    exact ⟨u, r, rfl, by unfold C; exact h1, CL_of_RL h2⟩
theorem RL_one' {Z : Nat → Prop} : ∀ {rv : List RV} {us : List Value}, RL Z w rv us → ∀ u ∈ us, u.oneCell' = true
  | [], us, h, u, hu => by unfold RL at h; subst h; simp at hu
  | x :: rv, us, h, u, hu => by
    unfold RL at h
    obtain ⟨v, r, rfl, h1, h2⟩ := h
    rcases List.mem_cons.1 hu with rfl | hu
    · exact CR_one h1
    · exact RL_one' h2 u hu
theorem arg_struct {fs : Array Field} {k : Nat} {b0 : Nat} {t : TypeId} {v : Value} {d : DataW H} {p : List MemPlace} (hs : P.underlying t = some (.struct fs)) (hk : okT P k t = true) (hv : Value.okWide P w .any b0 t v) (h : DataW.Trod enc P w base spare held t v d p) :
    ∃ rv, Shaped P k t rv ∧ C ⟨[], [], Zof w⟩ w (.agg (rv.map .r)) v := by
  obtain ⟨cs, rfl, _⟩ := okWide_struct hs hv
  obtain ⟨fuel, hf⟩ := h
  obtain ⟨rv, h1, h2⟩ := shaped_of (Z := Zof w) (fun _ h => h) k fuel t _ _ hk hf
  refine ⟨rv, h2, ?_⟩
  unfold C
  refine ⟨cs.toList, by simp, CL_of_RL (by simpa [Value.cells] using h1), RL_one' (by simpa [Value.cells] using h1)⟩
theorem arg_one {k : Nat} {t : TypeId} {v : Value} {d : DataW H} {p : List MemPlace} {Q : RV → Prop} (hk : okT P k t = true) (hc : v.cells = #[v]) (h : DataW.Trod enc P w base spare held t v d p) (hsh : ∀ rv, Shaped P k t rv → ∃ x, rv = [x] ∧ Q x) :
    ∃ x, Q x ∧ C ⟨[], [], Zof w⟩ w (.r x) v := by
  obtain ⟨fuel, hf⟩ := h
  obtain ⟨rv, h1, h2⟩ := shaped_of (Z := Zof w) (fun _ h => h) k fuel t _ _ hk hf
  obtain ⟨x, rfl, hq⟩ := hsh rv h2
  refine ⟨x, hq, ?_⟩
  rw [hc] at h1
  unfold RL at h1
  obtain ⟨u, r, h3, h4, _⟩ := h1
  simp at h3
  obtain ⟨rfl, _⟩ := h3
  unfold C
  exact h4
theorem trodAll_below (hl : laidOutB P = true) {W W' : World} (hb : Below W.heap.size W W') : ∀ {ts : List TypeId} {vs : List Value} {ds : List (DataW H)} {ps : List MemPlace}, (ts.all fun t => P.readableRec t && decide (t < P.types.size)) = true →
    DataW.TrodAll enc P W 0 (fun _ => true) true ts vs ds ps → DataW.TrodAll enc P W' 0 (fun b => decide (b < W.heap.size)) true ts vs ds ps
  | [], [], [], ps, _, h => h
  | t :: ts, v :: vs, d :: ds, ps, ht, h => by
    obtain ⟨p, q, h1, h2, rfl⟩ := h
    simp only [List.all_cons, Bool.and_eq_true, decide_eq_true_eq] at ht
    refine ⟨p, q, Below.trod hl ht.1.1 ht.1.2 h1 hb (fun x hx => ?_), trodAll_below hl hb ht.2 h2, rfl⟩
    obtain ⟨m, hm⟩ := h1
    exact DataW.trod_lt m _ _ _ hm x hx
  | [], _ :: _, _, _, _, h => h.elim
  | [], [], _ :: _, _, _, h => h.elim
  | _ :: _, [], _, _, _, h => h.elim
  | _ :: _, _ :: _, [], _, _, h => h.elim
end
section
variable {P : Program} {k : Nat} {t : TypeId} {rv : List RV}
theorem sh_int {kk : IntKind} (hu : P.underlying t = some (.int kk)) (h : Shaped P (k + 1) t rv) : ∃ m, rv = [.v (.int kk m)] ∧ (Lit.int kk m).wf = true := by
  unfold Shaped at h; rw [hu] at h; exact h
theorem sh_bool (hu : P.underlying t = some .bool) (h : Shaped P (k + 1) t rv) : ∃ b, rv = [.v (.bool b)] := by
  unfold Shaped at h; rw [hu] at h; exact h
theorem sh_string (hu : P.underlying t = some .string) (h : Shaped P (k + 1) t rv) : ∃ s : ByteArray, rv = [.v (.string s)] ∧ s.size ≤ maxLen := by
  unfold Shaped at h; rw [hu] at h; exact h
theorem sh_slice {e : TypeId} (hu : P.underlying t = some (.slice e)) (h : Shaped P (k + 1) t rv) : ∃ L, rv = [.rs (P.cellsOf e) L] ∧ L.length ≤ maxLen ∧ ∀ row ∈ L, Shaped P k e row := by
  unfold Shaped at h; rw [hu] at h; exact h
theorem sh_struct {fs : Array Field} (hu : P.underlying t = some (.struct fs)) (h : Shaped P (k + 1) t rv) :
    ∃ parts : List (List RV), rv = parts.flatten ∧ parts.length = fs.toList.length ∧ ∀ (i : Nat) (f : Field), fs.toList[i]? = some f → ∃ p, parts[i]? = some p ∧ Shaped P k f.type p := by
  unfold Shaped at h; rw [hu] at h; exact h
theorem of_wf_i64 {m : Int} (h : (Lit.int .i64 m).wf = true) : -9223372036854775808 ≤ m ∧ m ≤ 9223372036854775807 := by
  simp [Lit.wf, IntKind.min, IntKind.max, IntKind.bits, IntKind.signed] at h
  omega
theorem of_wf_u8 {m : Int} (h : (Lit.int .u8 m).wf = true) : 0 ≤ m ∧ m ≤ 255 := by
  simp [Lit.wf, IntKind.min, IntKind.max, IntKind.bits, IntKind.signed] at h
  omega
theorem of_wf_u32 {m : Int} (h : (Lit.int .u32 m).wf = true) : 0 ≤ m ∧ m ≤ 4294967295 := by
  simp [Lit.wf, IntKind.min, IntKind.max, IntKind.bits, IntKind.signed] at h
  omega
theorem of_wf_u64 {m : Int} (h : (Lit.int .u64 m).wf = true) : 0 ≤ m ∧ m ≤ 18446744073709551615 := by
  simp [Lit.wf, IntKind.min, IntKind.max, IntKind.bits, IntKind.signed] at h
  omega
theorem of_wf_u16 {m : Int} (h : (Lit.int .u16 m).wf = true) : 0 ≤ m ∧ m ≤ 65535 := by
  simp [Lit.wf, IntKind.min, IntKind.max, IntKind.bits, IntKind.signed] at h
  omega
end
theorem CL_nil' {E : Env} {w : World} : CL E w [] [] := by unfold CL; rfl
theorem CL_cons' {E : Env} {w : World} {x : AV} {u : Value} {xs : List AV} {us : List Value} (h : C E w x u) (hs : CL E w xs us) : CL E w (x :: xs) (u :: us) := by
  unfold CL; exact ⟨_, _, rfl, h, hs⟩
end Go.Proofs.Ytnenbopcoghmaaa.Kw
namespace Go.Proofs.Ytnenbopcoghmaaa.Kw
open Go Go.ChangeShapes Go.WideShapes
/-! ### numbers, Bools, slices of numbers, as they come in -/
section
variable {P : Program} {k : Nat} {t e : TypeId} {rv : List RV}
theorem ints_of {kk : IntKind} (hu : P.underlying e = some (.int kk)) : ∀ {L : List (List RV)}, (∀ row ∈ L, Shaped P (k + 1) e row) → ∃ l : List Int, L = l.map (fun n => [.v (.int kk n)]) ∧ ∀ n ∈ l, (Lit.int kk n).wf = true
  | [], _ => ⟨[], rfl, fun n h => by simp at h⟩
  | r :: L, h => by
    obtain ⟨m, rfl, hm⟩ := sh_int hu (h r (by simp))
    obtain ⟨l, rfl, hl⟩ := ints_of hu (L := L) (fun row hr => h row (by simp [hr]))
    refine ⟨m :: l, rfl, fun n hn => ?_⟩
    rcases List.mem_cons.1 hn with rfl | hn
    · exact hm
    · exact hl n hn
theorem bools_of (hu : P.underlying e = some .bool) : ∀ {L : List (List RV)}, (∀ row ∈ L, Shaped P (k + 1) e row) → ∃ l : List Bool, L = l.map (fun n => [.v (.bool n)])
  | [], _ => ⟨[], rfl⟩
  | r :: L, h => by
    obtain ⟨m, rfl⟩ := sh_bool hu (h r (by simp))
    obtain ⟨l, rfl⟩ := bools_of hu (L := L) (fun row hr => h row (by simp [hr]))
    exact ⟨m :: l, rfl⟩
end
section
variable {H : Type} {enc : TypeId × Value → H} {P : Program} {w : World} {base b0 : Nat} {spare : Nat → Bool} {held : Bool} {t e : TypeId} {v : Value} {d : DataW H} {p : List MemPlace}
theorem arg_int {kk : IntKind} (hu : P.underlying t = some (.int kk)) (hv : Value.okWide P w .any b0 t v) (h : DataW.Trod enc P w base spare held t v d p) : ∃ m : Int, (Lit.int kk m).wf = true ∧ C ⟨[], [], Zof w⟩ w (.r (.v (.int kk m))) v := by
  obtain ⟨n, rfl, _, _, hw⟩ := ChangeShapes.open_int hu hv h
  exact ⟨n, hw, by unfold C CR; exact ⟨rfl, rfl⟩⟩
theorem arg_boolG (hu : P.underlying t = some .bool) (hv : Value.okWide P w .any b0 t v) (h : DataW.Trod enc P w base spare held t v d p) : ∃ m : Bool, C ⟨[], [], Zof w⟩ w (.r (.v (.bool m))) v := by
  obtain ⟨n, rfl, _, _⟩ := Go.RowKit.open_bool hu hv h
  exact ⟨n, by unfold C CR; exact ⟨rfl, rfl⟩⟩
theorem arg_slice {k : Nat} {Q : List (List RV) → Prop} (hu : P.underlying t = some (.slice e)) (hk : okT P (k + 2) t = true) (hv : Value.okWide P w .any b0 t v) (h : DataW.Trod enc P w base spare held t v d p)
    (hq : ∀ L, (∀ row ∈ L, Shaped P (k + 1) e row) → L.length ≤ maxLen → Q L) : ∃ L, Q L ∧ C ⟨[], [], Zof w⟩ w (.r (.rs (P.cellsOf e) L)) v := by
  obtain ⟨A, ln, cp, rfl⟩ := Go.WideShapes.okWide_slice hu hv
  obtain ⟨x, ⟨L, rfl, hL⟩, h2⟩ := arg_one (k := k + 2) (Q := fun x => ∃ L, x = .rs (P.cellsOf e) L ∧ Q L) hk rfl h (fun rv hs => by
    obtain ⟨L, rfl, h1, hL⟩ := sh_slice hu hs
    exact ⟨_, rfl, L, rfl, hq L hL h1⟩)
  exact ⟨L, hL, h2⟩
theorem arg_ints {kk : IntKind} (hu : P.underlying t = some (.slice e)) (he : P.underlying e = some (.int kk)) (hk : okT P 2 t = true) (hc : P.cellsOf e = 1) (hv : Value.okWide P w .any b0 t v) (h : DataW.Trod enc P w base spare held t v d p) :
    ∃ l : List Int, (∀ n ∈ l, (Lit.int kk n).wf = true) ∧ C ⟨[], [], Zof w⟩ w (.r (.rs 1 (l.map fun n => [.v (.int kk n)]))) v := by
  obtain ⟨L, ⟨l, rfl, hl⟩, h2⟩ := arg_slice (k := 0) (Q := fun L => ∃ l : List Int, L = l.map (fun n => [.v (.int kk n)]) ∧ ∀ n ∈ l, (Lit.int kk n).wf = true) hu hk hv h (fun L hL _ => ints_of he hL)
  rw [hc] at h2
  exact ⟨l, hl, h2⟩
theorem arg_bools (hu : P.underlying t = some (.slice e)) (he : P.underlying e = some .bool) (hk : okT P 2 t = true) (hc : P.cellsOf e = 1) (hv : Value.okWide P w .any b0 t v) (h : DataW.Trod enc P w base spare held t v d p) :
    ∃ l : List Bool, C ⟨[], [], Zof w⟩ w (.r (.rs 1 (l.map fun n => [.v (.bool n)]))) v := by
  obtain ⟨L, ⟨l, rfl⟩, h2⟩ := arg_slice (k := 0) (Q := fun L => ∃ l : List Bool, L = l.map (fun n => [.v (.bool n)])) hu hk hv h (fun L hL _ => bools_of he hL)
  rw [hc] at h2
  exact ⟨l, h2⟩
end
end Go.Proofs.Ytnenbopcoghmaaa.Kw
