/- The framework of this seat's proofs, part 2: a walk through a function over a symbolic state, proved sound. No condition. -/
import Derived.Test.YtmocggibcniggaaK1
import Derived.Test.YtmocggibcniggaaWLast
import Derived.OrdersIn
import Derived.RangeFuncRecord
import Derived.RangeFuncCalls
set_option linter.unusedSimpArgs false
set_option linter.unusedVariables false
namespace Go.Proofs.Ytmocggibcniggaa.Kw
open Go
open Go.Proofs.YtmocggibcniggaaW.PrintLast
/-! ### the order of a region -/
inductive Md where
  | p | t | o | l
/-- An operation, as the calculus takes it, or (y) a round of a range over a function. -/
def wpB (y : Bool) (o : Oper) (P : Program) (a : Act) (w : World) (K : Act → World → Prop) (Q : Exit → Act → World → Prop) : Prop :=
  o.wp P a w K Q ∨ (y = true ∧ ∃ l f tmps as bd w1, (execOp a.eval o).run P w = .ok (.round l f tmps as bd) w1 ∧ RoundIn Fence.wide 0 P l f tmps as bd w1 (fun e w2 => match e with
    | .returned v => K (a.put o.dst v) w2
    | _ => False))
theorem wpB_false {o : Oper} {P : Program} {a : Act} {w : World} {K : Act → World → Prop} {Q : Exit → Act → World → Prop} (h : wpB false o P a w K Q) : o.wp P a w K Q := h.elim id (fun h => by cases h.1)
theorem wpB_if {b : Bool} {o : Oper} {P : Program} {a : Act} {w : World} {K : Act → World → Prop} {Q : Exit → Act → World → Prop} {X : Prop} (h : if b = true then wpB false o P a w K Q else X) : if b = true then o.wp P a w K Q else X := by
  cases b with
  | true => exact wpB_false h
  | false => exact h
def Seq (yy : Bool) (P : Program) (ops : Array Oper) (Q : Exit → Act → World → Prop) (Sx : World → Prop) : List (Nat × Md) → Act → World → Prop
  | [], a, w => Q .normal a w
  | (i, .p) :: r, a, w => ∃ oi, ops[i]? = some oi ∧ ∃ v, Yields P ops oi v a ∧ Seq yy P ops Q Sx r (a.put oi.dst v) w
  | (i, .t) :: r, a, w => ∃ oi, ops[i]? = some oi ∧ ∃ v, YieldsIf P ops Sx oi v a ∧ Sx w ∧ Seq yy P ops Q Sx r (a.put oi.dst v) w
  | (i, .o) :: r, a, w => ∃ oi, ops[i]? = some oi ∧ ∀ K : Act → World → Prop, (∀ a' w', Sx w' → Seq yy P ops Q Sx r a' w' → K a' w') → if Region.wanted oi (yielded ops a.tmps) = true then wpB yy oi P a w K Q else K (a.put oi.dst undef) w
  | (i, .l) :: r, a, w => ∃ oi, ops[i]? = some oi ∧ ∀ K : Act → World → Prop, (∀ a' w', Seq yy P ops Q Sx r a' w' → K a' w') → if Region.wanted oi (yielded ops a.tmps) = true then wpB yy oi P a w K Q else K (a.put oi.dst undef) w
def okS (ops : Array Oper) (ds : List Nat) : List (Nat × Md) → Array Bool → Bool
  | [], l => Region.ready .any ops l == []
  | (i, .p) :: r, l => anyB .any ops l (l.setIfInBounds i true) i && okS ops ds r (l.setIfInBounds i true)
  | (i, .t) :: r, l => takeB .any ops ds l (l.setIfInBounds i true) i && okS ops ds r (l.setIfInBounds i true)
  | (i, .o) :: r, l => readyB .any ops l (l.setIfInBounds i true) i && !ds.contains i && okS ops ds r (l.setIfInBounds i true)
  | (i, .l) :: r, l => readyB .any ops l (l.setIfInBounds i true) i && ds.contains i && okS ops ds r (l.setIfInBounds i true)
section
variable {P : Program} {ops : Array Oper} {Q : Exit → Act → World → Prop} {Sx : World → Prop}
def plain : Nat → Nat → List (Nat × Md)
  | _, 0 => []
  | i, n + 1 => (i, .l) :: plain (i + 1) n
/-- The fence of a frame: none; of a round: the round's. -/
def FF (ro : Option Nat) : Fence := { Fence.wide with round := ro }
def isDef : Op → Bool
  | .defer _ => true
  | _ => false
/-- In a round nothing is deferred. -/
def ndOk (ro : Option Nat) (ops : List Oper) : Bool := match ro with
  | none => true
  | some _ => ops.all fun o => !isDef o.op
theorem semAt_ff {ro : Option Nat} {o : Oper} (h : ro = none ∨ isDef o.op = false) (ρ : Operand → Value) : o.semAt ro ρ = execOp ρ o := by
  rcases h with rfl | h
  · exact Oper.semAt_none ρ o
  · exact Oper.semAt_eq ro ρ o (fun c hc => by rw [hc] at h; cases h)
theorem rowsIn_ff {ro : Option Nat} {row : String} {args : Array Value} {w : World} {R : Value → World → Prop} (h : Go.Rows P row args w R) : RowsIn (FF ro) 0 P row args w R := fun c cs _ =>
  let ⟨v, w', r, s⟩ := h c cs
  ⟨v, w', r, stepsIn_wide.2 s⟩
theorem wpIn_ff {ro : Option Nat} {o : Oper} {a : Act} {w : World} {K : Act → World → Prop} (hd : ro = none ∨ isDef o.op = false) (h : o.wp P a w K Q) : o.wpIn (FF ro) 0 P a w K Q := by
  unfold Oper.wp at h
  unfold Oper.wpIn
  refine ⟨fun _ _ => trivial, ?_⟩
  show o.uponIn (FF ro) 0 P a K Q ((o.semAt ro a.eval).run P w)
  rw [semAt_ff hd]
  generalize (execOp a.eval o).run P w = r at *
  cases r with
  | ok x w' =>
    cases x <;> simp only [Oper.upon] at h <;> simp only [Oper.uponIn]
    all_goals first | exact h | exact h.elim | exact ⟨(fun hh => by cases hh), (callsIn_wide (n := 0)).2 h⟩ | exact ⟨(fun hh => by cases hh), rowsIn_ff h⟩
  | halt x w' => cases x <;> simp only [Oper.upon] at h <;> simp only [Oper.uponIn] <;> first | exact h | exact h.elim
theorem wpBIn {yy : Bool} {ro : Option Nat} {o : Oper} {a : Act} {w : World} {K : Act → World → Prop} (hd : ro = none ∨ isDef o.op = false) (h : wpB yy o P a w K Q) : o.wpIn (FF ro) 0 P a w K Q := by
  rcases h with h | ⟨_, l, f, tmps, as, bd, w1, h1, h2⟩
  · exact wpIn_ff hd h
  · unfold Oper.wpIn
    refine ⟨fun _ _ => trivial, ?_⟩
    show o.uponIn (FF ro) 0 P a K Q ((o.semAt ro a.eval).run P w)
    rw [semAt_ff hd, h1, Oper.uponIn_round]
    refine ⟨(fun hh => by cases hh), ?_⟩
    refine RoundIn.mono (F := FF ro) (show RoundIn (FF ro) 0 P l f tmps as bd w1 _ from h2) (fun e w2 he => ?_)
    cases e <;> first | exact he | exact he.elim
theorem ndOk_at {ro : Option Nat} {ops : Array Oper} (h : ndOk ro ops.toList = true) {i : Nat} {o : Oper} (hi : ops[i]? = some o) : ro = none ∨ isDef o.op = false := by
  cases ro with
  | none => exact .inl rfl
  | some l =>
    unfold ndOk at h
    rw [List.all_eq_true] at h
    have := h o (by rw [← Array.getElem?_toList] at hi; exact List.mem_of_getElem? hi)
    exact .inr (by simpa using this)
theorem seq_plain {yy : Bool} {ro : Option Nat} (hnd : ndOk ro ops.toList = true) : ∀ (n i : Nat) (a : Act) (w : World), Seq yy P ops Q Sx (plain i n) a w → wpOpsIn (FF ro) 0 P ops Q (List.range' i n) a w
  | 0, i, a, w, h => h
  | n + 1, i, a, w, h => by
    obtain ⟨oi, hi, hs⟩ := h
    have h1 := hs (wpOpsIn (FF ro) 0 P ops Q (List.range' (i + 1) n)) (fun a' w' h2 => seq_plain hnd n (i + 1) a' w' h2)
    rw [List.range'_succ]
    unfold wpOpsIn
    simp only [hi]
    split
    · rename_i hw
      rw [if_pos hw] at h1
      exact wpBIn (ndOk_at hnd hi) h1
    · rename_i hw
      rw [if_neg hw] at h1
      exact ⟨fun _ _ => trivial, h1⟩
theorem wpOp_in {ro : Option Nat} (hnd : ndOk ro ops.toList = true) (hlo : ¬ LetsOut Q) {i : Nat} {K : Act → World → Prop} {a : Act} {w : World} (h : wpOp P ops Q i K a w) : wpOpIn (FF ro) 0 P ops Q i K a w := by
  unfold wpOp at h
  unfold wpOpIn
  cases hi : ops[i]? with
  | none => rw [hi] at h; exact h
  | some o =>
    rw [hi] at h
    simp only at h ⊢
    split
    · rename_i hw
      simp only [hw, if_true] at h
      exact wpIn_ff (ndOk_at hnd hi) (h.elim id (fun h => absurd h.2 hlo))
    · rename_i hw
      simp only [hw] at h
      exact ⟨fun _ _ => trivial, h⟩
theorem wpAny_in {ro : Option Nat} (hnd : ndOk ro ops.toList = true) (hlo : ¬ LetsOut Q) {md : Region.Mode} : ∀ (n : Nat) (l : Array Bool) (a : Act) (w : World), wpAny P md ops Q n l a w → wpAnyIn (FF ro) 0 P md ops Q n l a w
  | 0, l, a, w, h => h
  | n + 1, l, a, w, h => ⟨h.1, fun i hi => wpOp_in hnd hlo (wpOp_mono (fun a' w' h' => wpAny_in hnd hlo n _ a' w' h') (h.2 i hi))⟩
end
end Go.Proofs.Ytmocggibcniggaa.Kw
namespace Go.Proofs.Ytmocggibcniggaa.Kw
open Go
open Go.Proofs.YtmocggibcniggaaW.PrintLast
structure Ctx where
  P : Program
  T : Tab
  f : FuncId
  fn : Func
  n : Nat
  w0 : World
  X : Org
  R : Ending → World → Prop
  /-- the round that the frame runs, if it runs one; may its regions yield; what is deferred -/
  ro : Option Nat
  yl : Bool
  ds : List Deferred
structure CtxOk (c : Ctx) : Prop where
  hf : c.P.funcs[c.f]? = some c.fn
  hT : TabOk c.P c.T
  hm : c.P.follows .mixedOrders = true
/-- How a frame is left: as a function's; as a round's. -/
def Left (c : Ctx) (cs : List Frame) (m : Machine) (e : Ending) (w' : World) : Prop := match c.ro with
  | none => ∃ fr, m = lone fr cs w' ∧ fr.fn = c.f ∧ fr.leaving c.P w' e
  | some _ => ∃ cc cs' v, cs = cc :: cs' ∧ e = .returned v ∧ m = lone (cc.finish v) cs' w'
def Reach (c : Ctx) (k : List Item) (a : Act) (w : World) : Prop :=
  ∀ (b : Frame) (cs : List Frame), b.fn = c.f → b.kind = .normal → b.roundOf = c.ro → (c.ro ≠ none → cs ≠ []) → ∃ e w' m, c.R e w' ∧ Comes c.P (lone (b.atR a k) cs w) m e ∧ Left c cs m e w'
section
variable {c : Ctx} {k k' : List Item} {a a' : Act} {w w' : World}
theorem Reach.steps (h : Reach c k' a' w') (hs : ∀ (b : Frame) (cs : List Frame), b.fn = c.f → b.kind = .normal → b.roundOf = c.ro → (c.ro ≠ none → cs ≠ []) → Steps c.P (lone (b.atR a k) cs w) (lone (b.atR a' k') cs w')) : Reach c k a w := fun b cs h1 h2 h3 h4 =>
  let ⟨e, w1, m, r, cm, x⟩ := h b cs h1 h2 h3 h4
  ⟨e, w1, m, r, cm.of_steps (hs b cs h1 h2 h3 h4), x⟩
theorem Reach.step (h : Reach c k' a' w') (hs : ∀ (b : Frame) (cs : List Frame), step c.P (lone (b.atR a k) cs w) = .next (lone (b.atR a' k') cs w')) : Reach c k a w := h.steps (fun b cs _ _ _ _ => .one (hs b cs))
def RQ (c : Ctx) (k : List Item) : Exit → Act → World → Prop
  | .normal, a, w => Reach c k a w
  | _, _, _ => False
theorem rq_lets : ¬ LetsOut (RQ c k) := fun ⟨_, _, h⟩ => h
theorem Reach.of_wpIn {x : Code} (h : x.wpIn (FF c.ro) 0 c.P (RQ c k) a w) : Reach c (.code x :: k) a w := by
  intro b cs h1 h2 h3 h4
  obtain ⟨e, a1, w1, hq, harr⟩ := h b k cs h3 trivial (fun _ hd => by cases hd)
  cases e with
  | normal =>
    obtain ⟨e, w2, m, r, cm, lf⟩ := hq b cs h1 h2 h3 h4
    have hs : Steps c.P (lone (b.atR a (.code x :: k)) cs w) (lone (b.atR a1 k) cs w1) := StepsIn.steps harr
    exact ⟨e, w2, m, r, cm.of_steps hs, lf⟩
  | _ => exact hq.elim
theorem Reach.ret {v : Value} (hro : c.ro = none) (hf : c.P.funcs[c.f]? = some c.fn) (hd : a.defers = []) (hr : (results c.fn a.tmps).run c.P w = .ok v w) (hR : c.R (.returned v) w) : Reach c (.code .ret :: k) a w := by
  intro b cs h1 h2 h3 h4
  refine ⟨.returned v, w, _, hR, Steps.one (stepR_ret (h3.trans hro)), ?_⟩
  unfold Left
  rw [hro]
  exact ⟨_, rfl, h1, ⟨rfl, hd, h2, c.fn, by rw [← hf, ← h1]; rfl, hr⟩⟩
theorem Reach.fin {v : Value} (hro : c.ro = none) (hf : c.P.funcs[c.f]? = some c.fn) (hd : a.defers = []) (hr : (results c.fn a.tmps).run c.P w = .ok v w) (hR : c.R (.returned v) w) : Reach c [] a w := by
  intro b cs h1 h2 h3 h4
  refine ⟨.returned v, w, _, hR, Steps.one (stepR_end (h3.trans hro)), ?_⟩
  unfold Left
  rw [hro]
  exact ⟨_, rfl, h1, ⟨rfl, hd, h2, c.fn, by rw [← hf, ← h1]; rfl, hr⟩⟩
theorem calls_of_reach {code : Code} {args : Array Value} (hro : c.ro = none) (hf : c.P.funcs[c.f]? = some c.fn) (hb : c.fn.body = some code)
    (h : Reach c [.code code] { tmps := args ++ Array.replicate (c.fn.ntmps - args.size) undef, defers := [] } w) : Calls c.P c.f args w c.R := by
  intro cs
  let b : Frame := { (default : Frame) with fn := c.f, kind := .normal, roundOf := none }
  have henter : Frame.enter c.P c.f args .normal = b.atR { tmps := args ++ Array.replicate (c.fn.ntmps - args.size) undef, defers := [] } [.code code] := by
    simp [Frame.enter, Frame.atR, hf, hb, b]
  obtain ⟨e, w', m, r, cm, x⟩ := h b cs rfl rfl hro.symm (fun hh => absurd hro hh)
  rw [← henter] at cm
  unfold Left at x
  rw [hro] at x
  obtain ⟨fr, rfl, x1, x2⟩ := x
  exact ⟨e, w', fr, r, cm, x1, x2⟩
end
/-- THE GOAL AT A LIST OF ITEMS. -/
def GI (c : Ctx) (k : List Item) (F : Fr) (H : Hp) (S : Sp) : Prop :=
  ∀ E a w, a.tmps.size = c.n → a.defers = c.ds → Fits E w F a → Sat c.w0 c.X E H S w → Reach c k a w
/-- Where a region that draws its order began. -/
structure St where
  w1 : World
  n1 : Nat
  S1 : Sp
  K : Nat → Prop
  zf : Bool
def Sx (st : Option St) (w : World) : Prop := match st with
  | some s => s.w1.heap.size ≤ w.heap.size ∧ ∀ b, s.K b → w.heap[b]? = s.w1.heap[b]?
  | none => True
structure Inv (s : St) (E : Env) (w : World) : Prop where
  keeps : Sx (some s) w
  below : ∀ b, s.K b → b < s.w1.heap.size
  B : ∀ (i b : Nat), i < s.n1 → E.B[i]? = some b → s.K b
  V : ∀ (i : Nat) (e : SE) (fp : List Nat) (b : Nat), s.S1[i]? = some (some e) → E.P[i]? = some fp → b ∈ fp → s.K b
  Z : s.zf = true → ∀ b, E.Z b → s.K b
  dis : ∀ (b : Nat) (x : Nat ⊕ Nat), s.K b → E.O b = some x → (∃ i, x = .inl i ∧ i < s.n1) ∨ (∃ k, x = .inr k ∧ k < s.S1.length)
/-- What follows a list of operations: the region's end, or two ways to go on. -/
inductive Ct where
  | it
  | alt (x : List (Nat × Md)) (kx : Ct) (y : List (Nat × Md)) (ky : Ct)
structure Kz where
  k : List Item
  T : Ct
def RT (c : Ctx) (k : List Item) (ops : Array Oper) (q : Option St) : Ct → Exit → Act → World → Prop
  | .it => RQ c k
  | .alt x kx y ky => fun e a w => match e with
    | .normal => Seq c.yl c.P ops (RT c k ops q kx) (Sx q) x a w ∧ Seq c.yl c.P ops (RT c k ops q ky) (Sx q) y a w
    | _ => False
/-- THE GOAL IN A REGION. q: where the region began, if it draws; st: the same, as long as no last operation has been taken. -/
def GR (c : Ctx) (ops : Array Oper) (kz : Kz) (q st : Option St) (sch : List (Nat × Md)) (F : Fr) (H : Hp) (S : Sp) : Prop :=
  ∀ E a w, a.tmps.size = c.n → a.defers = c.ds → Fits E w F a → Sat c.w0 c.X E H S w → (∀ s, st = some s → q = some s ∧ Inv s E w) → Seq c.yl c.P ops (RT c kz.k ops q kz.T) (Sx q) sch a w
section
variable {c : Ctx} {k : List Item} {F : Fr} {H : Hp} {S : Sp}
theorem gi_seq {x y : Code} (h : GI c (.code x :: .code y :: k) F H S) : GI c (.code (.seq x y) :: k) F H S :=
  fun E a w h1 h2 h3 h4 => (h E a w h1 h2 h3 h4).step (fun _ _ => stepR_seq)
theorem gi_skip (h : GI c k F H S) : GI c (.code .skip :: k) F H S := fun E a w h1 h2 h3 h4 => (h E a w h1 h2 h3 h4).step (fun _ _ => stepR_skip)
theorem gi_label {l : Nat} (h : GI c k F H S) : GI c (.code (.label l) :: k) F H S := fun E a w h1 h2 h3 h4 => (h E a w h1 h2 h3 h4).step (fun _ _ => stepR_label)
theorem gi_block {id : Nat} {x : Code} (h : GI c (.code x :: .inBlock id :: k) F H S) : GI c (.code (.block id x) :: k) F H S :=
  fun E a w h1 h2 h3 h4 => (h E a w h1 h2 h3 h4).step (fun _ _ => stepR_block)
theorem gi_inBlock {id : Nat} (h : GI c k F H S) : GI c (.inBlock id :: k) F H S := fun E a w h1 h2 h3 h4 => (h E a w h1 h2 h3 h4).step (fun _ _ => stepR_inBlock)
theorem gi_exit {id : Nat} {k' : List Item} (hk : exitTo id k = some k') (h : GI c k' F H S) : GI c (.code (.exit id) :: k) F H S :=
  fun E a w h1 h2 h3 h4 => (h E a w h1 h2 h3 h4).step (fun _ _ => stepR_exit hk)
theorem gi_loop0 {x : Code} (h : GI c (.code x :: .inLoop x :: k) F H S) : GI c (.code (.loop x) :: k) F H S :=
  fun E a w h1 h2 h3 h4 => (h E a w h1 h2 h3 h4).step (fun _ _ => stepR_loop)
theorem gi_inLoop {x : Code} (h : GI c (.code x :: .inLoop x :: k) F H S) : GI c (.inLoop x :: k) F H S :=
  fun E a w h1 h2 h3 h4 => (h E a w h1 h2 h3 h4).step (fun _ _ => stepR_inLoop)
theorem gi_cond {o : Operand} {x y : Code} {p : Bool} (hc : ev F o = some (.r (.v (.bool p)))) (ht : p = true → GI c (.code x :: k) F H S) (hf : p = false → GI c (.code y :: k) F H S) : GI c (.code (.cond o x y) :: k) F H S := by
  intro E a w h1 h2 h3 h4
  have := C_v (h3.ev hc)
  cases p with
  | true => exact (ht rfl E a w h1 h2 h3 h4).step (fun _ _ => by rw [stepR_cond this]; rfl)
  | false => exact (hf rfl E a w h1 h2 h3 h4).step (fun _ _ => by rw [stepR_cond this]; rfl)
theorem gi_true {o : Operand} {x y : Code} (hc : ev F o = some (.r (.v (.bool true)))) (ht : GI c (.code x :: k) F H S) : GI c (.code (.cond o x y) :: k) F H S := gi_cond hc (fun _ => ht) (fun h => by cases h)
theorem gi_false {o : Operand} {x y : Code} (hc : ev F o = some (.r (.v (.bool false)))) (ht : GI c (.code y :: k) F H S) : GI c (.code (.cond o x y) :: k) F H S := gi_cond hc (fun h => by cases h) (fun _ => ht)
theorem gi_lt {o : Operand} {x y : Code} {p q : Int} (hc : ev F o = some (.r (.v (.bool (ltB p q))))) (ht : p < q → GI c (.code x :: k) F H S) (hf : ¬ p < q → GI c (.code y :: k) F H S) : GI c (.code (.cond o x y) :: k) F H S :=
  gi_cond hc (fun h => ht (by rw [ltB_eq] at h; exact of_decide_eq_true h)) (fun h => hf (by rw [ltB_eq] at h; exact of_decide_eq_false h))
theorem gi_le {o : Operand} {x y : Code} {p q : Int} (hc : ev F o = some (.r (.v (.bool (leB p q))))) (ht : p ≤ q → GI c (.code x :: k) F H S) (hf : ¬ p ≤ q → GI c (.code y :: k) F H S) : GI c (.code (.cond o x y) :: k) F H S :=
  gi_cond hc (fun h => ht (by rw [leB_eq] at h; exact of_decide_eq_true h)) (fun h => hf (by rw [leB_eq] at h; exact of_decide_eq_false h))
theorem gi_eq {o : Operand} {x y : Code} {p q : Int} (hc : ev F o = some (.r (.v (.bool (eqB p q))))) (ht : p = q → GI c (.code x :: k) F H S) (hf : p ≠ q → GI c (.code y :: k) F H S) : GI c (.code (.cond o x y) :: k) F H S :=
  gi_cond hc (fun h => ht (by rw [eqB_eq] at h; simpa using h)) (fun h => hf (by rw [eqB_eq] at h; simpa using h))
theorem gi_ne {o : Operand} {x y : Code} {p q : Int} (hc : ev F o = some (.r (.v (.bool (notB (eqB p q)))))) (ht : p ≠ q → GI c (.code x :: k) F H S) (hf : p = q → GI c (.code y :: k) F H S) : GI c (.code (.cond o x y) :: k) F H S :=
  gi_cond hc (fun h => ht (by rw [notB_eq, eqB_eq] at h; simpa using h)) (fun h => hf (by rw [notB_eq, eqB_eq] at h; simpa using h))
def inText : Nat → List Oper → List (Nat × Md)
  | _, [] => []
  | i, _ :: r => (i, .l) :: inText (i + 1) r
theorem inText_eq : ∀ (l : List Oper) (i : Nat), inText i l = plain i l.length
  | [], _ => rfl
  | _ :: l, i => by
    show _ :: inText (i + 1) l = plain i (l.length + 1)
    unfold plain
    rw [inText_eq l (i + 1)]
/-- The region in the text's order. -/
theorem gi_plain {id : Nat} {l : List Oper} (h : GR c (List.toArray l) ⟨k, .it⟩ none none (inText 0 l) F H S) (hnd : ndOk c.ro l = true := by rfl) : GI c (.code (.region id (List.toArray l) false) :: k) F H S := by
  intro E a w h1 h2 h3 h4
  refine Reach.of_wpIn (wpIn_region ?_)
  rw [List.range_eq_range']
  rw [inText_eq] at h
  exact seq_plain hnd l.length 0 a w (h E a w h1 h2 h3 h4 (fun _ h => by cases h))
/-- A region that draws its order, from the calculus of orders. -/
theorem Reach.of_any {id n : Nat} {ops : Array Oper} {a : Act} {w : World} {Sp : World → Prop} {ds : List Nat} (hnd : ndOk c.ro ops.toList = true) (hm : c.P.follows .mixedOrders = true) (hn : ops.size = n) (h : wpAnyLast c.P .any ops (RQ c k) Sp ds n (Array.replicate n false) a w.drew) : Reach c (.code (.region id ops true) :: k) a w := by
  refine Reach.of_wpIn (wpIn_region_any hm ?_)
  subst hn
  exact wpAny_in hnd rq_lets _ _ _ _ (wpAny_of_last _ _ _ _ h)
/-- The blocks that stay: who is owned by what may be handed over is not one of them. -/
def KeepK (w : World) (E : Env) (n : Nat) (S1 : Sp) : Nat → Prop := fun b => b < w.heap.size ∧ ∀ x, E.O b = some x → (∃ i, x = .inl i ∧ i < n) ∨ (∃ k, x = .inr k ∧ k < S1.length)
theorem Inv.start {w0 : World} {X : Org} {E : Env} {w : World} (h4 : Sat w0 X E H S w) (n : Nat) (S1 : Sp) (hS : ∀ (i : Nat) (e : SE), S1[i]? = some (some e) → S[i]? = some (some e)) (zf : Bool := true) : Inv ⟨w, n, S1, KeepK w E n S1, zf⟩ E w :=
  ⟨⟨Nat.le_refl _, fun _ _ => rfl⟩, fun _ h => h.1, fun i b hi hb => ⟨(h4.bB hb).1, fun x hx => by rw [h4.oB i b hb] at hx; cases hx; exact .inl ⟨i, rfl, hi⟩⟩,
    fun i e fp b hi hf hb => ⟨(h4.bP (hS i e hi) hf hb).1, fun x hx => by rw [h4.oP i e fp b (hS i e hi) hf hb] at hx; cases hx; exact .inr ⟨i, rfl, (List.getElem?_eq_some_iff.1 hi).1⟩⟩,
    fun _ b hb => ⟨h4.Z b hb, fun x hx => absurd hb (h4.own b x hx).2.2⟩, fun b x hb hx => hb.2 x hx⟩
end
end Go.Proofs.Ytmocggibcniggaa.Kw
namespace Go.Proofs.Ytmocggibcniggaa.Kw
open Go
def gOk (ops : Array Oper) (F : Fr) : Option (Nat × Bool) → Option Bool
  | none => some true
  | some (j, want) => match ops[j]? with
    | some o => match o.dst with
      | some d => match F.get d with
        | some (.r (.v (.bool b))) => some (b == want)
        | some (.tup _) => some false
        | _ => none
      | none => none
    | none => none
def mOk : Md → Option St → Bool
  | .p, _ => true
  | .t, some _ => true
  | .o, some _ => true
  | .l, _ => true
  | _, none => false
section
variable {c : Ctx} {ops : Array Oper} {k : List Item} {kz : Kz} {q st : Option St} {i : Nat} {m : Md} {sch : List (Nat × Md)} {F : Fr} {H : Hp} {S : Sp} {o : Oper} {d : Nat} {r : AV} {E : Env} {a : Act} {w w' : World}
theorem gOk_ok (hF : Fits E w F a) {b : Bool} (h : gOk ops F o.guard = some b) : Region.wanted o (yielded ops a.tmps) = b := by
  unfold Region.wanted
  cases hg : o.guard with
  | none => rw [hg] at h; simp [gOk] at h; rw [← h]
  | some x =>
    obtain ⟨j, want⟩ := x
    rw [hg] at h
    simp only [gOk] at h
    cases hj : ops[j]? with
    | none => simp [hj] at h
    | some oj =>
      simp only [hj] at h
      cases hd : oj.dst with
      | none => simp [hd] at h
      | some d =>
        simp only [hd] at h
        split at h
        · rename_i b' hb
          obtain ⟨u, h1, h2⟩ := hF.get d _ hb
          have := C_v h2
          subst this
          cases h
          simp [yielded, hj, hd, h1]
        · rename_i cs hb
          obtain ⟨u, h1, h2⟩ := hF.get d _ hb
          unfold C at h2
          obtain ⟨us, rfl, _⟩ := h2
          cases h
          simp [yielded, hj, hd, h1]
        · cases h
theorem sx_of (hq : ∀ s, st = some s → q = some s ∧ Inv s E w) (hst : st.isSome = true) : Sx q w := by
  cases hs : st with
  | none => rw [hs] at hst; cases hst
  | some s => obtain ⟨h1, h2⟩ := hq s hs; rw [h1]; exact h2.keeps
/-- An operation's answer, in every world. -/
theorem seq_ans {Q : Exit → Act → World → Prop} {S' : World → Prop} {u : Value} (hi : ops[i]? = some o) (hw : Region.wanted o (yielded ops a.tmps) = true) (hu : Ans c.P a o u) (hS : m = .p ∨ m = .l ∨ S' w) (h : Seq c.yl c.P ops Q S' sch (a.put o.dst u) w) : Seq c.yl c.P ops Q S' ((i, m) :: sch) a w := by
  cases m with
  | p => exact ⟨o, hi, u, .inl ⟨hw, hu⟩, h⟩
  | t => exact ⟨o, hi, u, .inl ⟨hw, fun w' _ => hu w'⟩, by rcases hS with hS | hS | hS <;> first | cases hS | exact hS, h⟩
  | o =>
    refine ⟨o, hi, fun K hK => ?_⟩
    rw [if_pos hw]
    refine .inl ?_
    unfold Oper.wp
    rw [hu w]
    exact hK _ _ (by rcases hS with hS | hS | hS <;> first | cases hS | exact hS) h
  | l =>
    refine ⟨o, hi, fun K hK => ?_⟩
    rw [if_pos hw]
    refine .inl ?_
    unfold Oper.wp
    rw [hu w]
    exact hK _ _ h
/-- An operation that yields a value in this world, and may make memory. -/
theorem seq_value {Q : Exit → Act → World → Prop} {S' : World → Prop} {u : Value} (hi : ops[i]? = some o) (hw : Region.wanted o (yielded ops a.tmps) = true) (hu : (execOp a.eval o).run c.P w = .ok (.value u) w') (hS : (m = .o ∧ S' w') ∨ m = .l) (h : Seq c.yl c.P ops Q S' sch (a.put o.dst u) w') : Seq c.yl c.P ops Q S' ((i, m) :: sch) a w := by
  rcases hS with ⟨rfl, hS⟩ | rfl
  · refine ⟨o, hi, fun K hK => ?_⟩
    rw [if_pos hw]
    refine .inl ?_
    unfold Oper.wp
    rw [hu]
    exact hK _ _ hS h
  · refine ⟨o, hi, fun K hK => ?_⟩
    rw [if_pos hw]
    refine .inl ?_
    unfold Oper.wp
    rw [hu]
    exact hK _ _ h
theorem seq_skip {Q : Exit → Act → World → Prop} {S' : World → Prop} (hi : ops[i]? = some o) (hw : Region.wanted o (yielded ops a.tmps) = true) (hu : (execOp a.eval o).run c.P w = .ok .skip w') (hS : (m = .o ∧ S' w') ∨ m = .l) (h : Seq c.yl c.P ops Q S' sch (a.put o.dst undef) w') : Seq c.yl c.P ops Q S' ((i, m) :: sch) a w := by
  rcases hS with ⟨rfl, hS⟩ | rfl
  · refine ⟨o, hi, fun K hK => ?_⟩
    rw [if_pos hw]
    refine .inl ?_
    unfold Oper.wp
    rw [hu]
    exact hK _ _ hS h
  · refine ⟨o, hi, fun K hK => ?_⟩
    rw [if_pos hw]
    refine .inl ?_
    unfold Oper.wp
    rw [hu]
    exact hK _ _ h
theorem seq_call {Q : Exit → Act → World → Prop} {S' : World → Prop} {g : FuncId} {us : Array Value} (hi : ops[i]? = some o) (hw : Region.wanted o (yielded ops a.tmps) = true) (hu : (execOp a.eval o).run c.P w = .ok (.enter g us) w)
    (h : Calls c.P g us w fun e w' => ∃ u, e = .returned u ∧ ((m = .o ∧ S' w') ∨ m = .l) ∧ Seq c.yl c.P ops Q S' sch (a.put o.dst u) w') : m = .o ∨ m = .l → Seq c.yl c.P ops Q S' ((i, m) :: sch) a w := by
  intro hm
  rcases hm with rfl | rfl
  · refine ⟨o, hi, fun K hK => ?_⟩
    rw [if_pos hw]
    refine .inl ?_
    unfold Oper.wp
    rw [hu, Oper.upon_enter]
    refine h.mono fun e w' hh => ?_
    obtain ⟨u, rfl, hS, hk⟩ := hh
    rcases hS with ⟨_, hS⟩ | hS
    · exact hK _ _ hS hk
    · cases hS
  · refine ⟨o, hi, fun K hK => ?_⟩
    rw [if_pos hw]
    refine .inl ?_
    unfold Oper.wp
    rw [hu, Oper.upon_enter]
    refine h.mono fun e w' hh => ?_
    obtain ⟨u, rfl, _, hk⟩ := hh
    exact hK _ _ hk

/-! ### the rules -/
/-- An operation is next (this takes nothing: it tells the kind of goal). -/
theorem r_op (h : GR c ops kz q st ((i, m) :: sch) F H S) : GR c ops kz q st ((i, m) :: sch) F H S := h
/-- Two ways to go on. -/
theorem r_alt {x y : List (Nat × Md)} {kx ky : Ct} (hx : GR c ops ⟨k, kx⟩ q st x F H S) (hy : GR c ops ⟨k, ky⟩ q st y F H S) : GR c ops ⟨k, .alt x kx y ky⟩ q st [] F H S :=
  fun E a w h1 h2 h3 h4 h5 => ⟨hx E a w h1 h2 h3 h4 h5, hy E a w h1 h2 h3 h4 h5⟩
theorem gi_cnd {x : Operand} {y z : Code} (h : GI c (.code (.cond x y z) :: k) F H S) : GI c (.code (.cond x y z) :: k) F H S := h
theorem r_end (h : GI c k F H S) : GR c ops ⟨k, .it⟩ q st [] F H S := fun E a w h1 h2 h3 h4 _ => h E a w h1 h2 h3 h4
theorem r_pure (hT : TabOk c.P c.T) (hi : ops[i]? = some o) (hd : o.dst = some d) (hn : Nat.blt d c.n = true) (hg : gOk ops F o.guard = some true) (hm : mOk m st = true) (hv : pureVal c.T S F o.op = some r)
    (h : GR c ops kz q st sch ((d, r) :: F) H S) : GR c ops kz q st ((i, m) :: sch) F H S := by
  intro E a w h1 h2 h3 h4 h5
  obtain ⟨u, hu, ha⟩ := pureVal_ok hT h4 h3 hv
  refine seq_ans hi (gOk_ok h3 hg) ha ?_ ?_
  · cases m with
    | p => exact .inl rfl
    | l => exact .inr (.inl rfl)
    | _ => cases st with
      | none => cases hm
      | some s => exact .inr (.inr (sx_of h5 rfl))
  · rw [hd]
    refine h E _ w ?_ ?_ (h3.put hu (by rw [h1]; exact hn)) h4 h5
    · rw [(put_size _ _ _).1]; exact h1
    · rw [(put_size _ _ _).2]; exact h2
/-- An operation whose guard says no. -/
theorem r_off (hi : ops[i]? = some o) (hd : o.dst = some d) (hn : Nat.blt d c.n = true) (hg : gOk ops F o.guard = some false) (hm : mOk m st = true)
    (h : GR c ops kz q st sch ((d, .tup []) :: F) H S) : GR c ops kz q st ((i, m) :: sch) F H S := by
  intro E a w h1 h2 h3 h4 h5
  have hw := gOk_ok (o := o) h3 hg
  have hj : C E w (.tup []) undef := by unfold C; exact ⟨[], rfl, by unfold CL; rfl⟩
  have rest : Seq c.yl c.P ops (RT c kz.k ops q kz.T) (Sx q) sch (a.put o.dst undef) w := by
    rw [hd]
    refine h E _ w ?_ ?_ (h3.put hj (by rw [h1]; exact hn)) h4 h5
    · rw [(put_size _ _ _).1]; exact h1
    · rw [(put_size _ _ _).2]; exact h2
  cases m with
  | p => exact ⟨o, hi, undef, .inr ⟨hw, rfl⟩, rest⟩
  | t => cases st with
    | none => cases hm
    | some s => exact ⟨o, hi, undef, .inr ⟨hw, rfl⟩, sx_of h5 rfl, rest⟩
  | o => cases st with
    | none => cases hm
    | some s => exact ⟨o, hi, fun K hK => by rw [if_neg (by rw [hw]; decide)]; exact hK _ _ (sx_of h5 rfl) rest⟩
  | l => exact ⟨o, hi, fun K hK => by rw [if_neg (by rw [hw]; decide)]; exact hK _ _ rest⟩
/-- An operation without a destination whose guard says no. -/
theorem r_off0 (hi : ops[i]? = some o) (hd : o.dst = none) (hg : gOk ops F o.guard = some false) (hm : mOk m st = true) (h : GR c ops kz q st sch F H S) : GR c ops kz q st ((i, m) :: sch) F H S := by
  intro E a w h1 h2 h3 h4 h5
  have hw := gOk_ok (o := o) h3 hg
  have rest : Seq c.yl c.P ops (RT c kz.k ops q kz.T) (Sx q) sch (a.put o.dst undef) w := by
    rw [hd]
    exact h E _ w h1 h2 h3 h4 h5
  cases m with
  | p => exact ⟨o, hi, undef, .inr ⟨hw, rfl⟩, rest⟩
  | t => cases st with
    | none => cases hm
    | some s => exact ⟨o, hi, undef, .inr ⟨hw, rfl⟩, sx_of h5 rfl, rest⟩
  | o => cases st with
    | none => cases hm
    | some s => exact ⟨o, hi, fun K hK => by rw [if_neg (by rw [hw]; decide)]; exact hK _ _ (sx_of h5 rfl) rest⟩
  | l => exact ⟨o, hi, fun K hK => by rw [if_neg (by rw [hw]; decide)]; exact hK _ _ rest⟩
/-- What a slot holds is told otherwise. -/
theorem Fits.turn (hF : Fits E w F a) {x y : AV} (hx : F.get d = some x) (hxy : ∀ u, C E w x u → C E w y u) : Fits E w ((d, y) :: F) a := by
  refine ⟨fun n z hz => ?_⟩
  unfold Fr.get at hz
  cases hb : Nat.beq d n with
  | true =>
    rw [hb] at hz
    simp at hz
    have : d = n := Nat.eq_of_beq_eq_true hb
    subst this; subst hz
    obtain ⟨u, h1, h2⟩ := hF.get d x hx
    exact ⟨u, h1, hxy u h2⟩
  | false => rw [hb] at hz; exact hF.get n z hz
theorem r_turn {x y : AV} (hx : F.get d = some x) (hxy : x = y) (h : GR c ops kz q st sch ((d, y) :: F) H S) : GR c ops kz q st sch F H S :=
  fun E a w h1 h2 h3 h4 h5 => h E a w h1 h2 (h3.turn hx (fun _ hu => hxy ▸ hu)) h4 h5
theorem gi_turn {x y : AV} (hx : F.get d = some x) (hxy : x = y) (h : GI c k ((d, y) :: F) H S) : GI c k F H S :=
  fun E a w h1 h2 h3 h4 => h E a w h1 h2 (h3.turn hx (fun _ hu => hxy ▸ hu)) h4
/-- A Bool that a slot holds is decided. -/
theorem r_case {p : Bool} (hx : F.get d = some (.r (.v (.bool p)))) (ht : p = true → GR c ops kz q st sch ((d, .r (.v (.bool true))) :: F) H S) (hf : p = false → GR c ops kz q st sch ((d, .r (.v (.bool false))) :: F) H S) : GR c ops kz q st sch F H S := by
  cases p with
  | true => exact r_turn hx rfl (ht rfl)
  | false => exact r_turn hx rfl (hf rfl)
theorem r_known {p b : Bool} (hx : F.get d = some (.r (.v (.bool p)))) (hp : p = b) (h : GR c ops kz q st sch ((d, .r (.v (.bool b))) :: F) H S) : GR c ops kz q st sch F H S := r_turn hx (by rw [hp]) h
theorem gi_known {p b : Bool} (hx : F.get d = some (.r (.v (.bool p)))) (hp : p = b) (h : GI c k ((d, .r (.v (.bool b))) :: F) H S) : GI c k F H S := gi_turn hx (by rw [hp]) h
end
end Go.Proofs.Ytmocggibcniggaa.Kw
namespace Go.Proofs.Ytmocggibcniggaa.Kw
open Go
def rows : List RV → List AV
  | [] => []
  | x :: xs => .r x :: rows xs
/-- What a load of type y behind a pointer finds. -/
def loadA (y : Ty) (H : Hp) : AV → Option AV
  | .box i off => match H[i]? with
    | some (some (t, cs)) => match isMp t || isMo off with
      | true => none
      | false => match y.agg with
        | true => match Nat.ble (off + y.size) cs.length with
          | true => some (.agg ((cs.drop off).take y.size))
          | false => none
        | false => cs[off]?
    | _ => none
  | .r (.ro cs) => match y.agg with
    | true => match Nat.ble y.size cs.length with
      | true => some (.agg (rows (cs.take y.size)))
      | false => none
    | false => match cs with
      | x :: _ => some (.r x)
      | [] => none
  | _ => none
def oldA (s : St) : AV → Bool
  | .box i _ => Nat.blt i s.n1
  | .r (.ro _) => s.zf
  | .el _ _ _ _ => true
  | _ => false
def lOk (m : Md) (st : Option St) (x : AV) : Bool := match m, st with
  | .l, _ => true
  | .o, some _ => true
  | .t, some s => oldA s x
  | _, _ => false
section
variable {c : Ctx} {ops : Array Oper} {k : List Item} {kz : Kz} {q st : Option St} {i : Nat} {m : Md} {sch : List (Nat × Md)} {F : Fr} {H : Hp} {S : Sp} {o : Oper} {d : Nat} {r : AV} {E : Env} {a : Act} {w w' : World} {P : Program}
theorem run_loadCells : ∀ (n j : Nat) (b o : Nat) (us : List Value) (acc : Array Value), us.length = n → (∀ i u, us[i]? = some u → w.cell? ⟨b, o + (j + i), none⟩ = some u) → (loadCellsFrom ⟨b, o, none⟩ j n acc).run P w = .ok (acc ++ List.toArray us) w
  | 0, j, b, o, us, acc, hl, _ => by
    have : us = [] := List.eq_nil_of_length_eq_zero hl
    subst this
    simp [loadCellsFrom]
  | n + 1, j, b, o, us, acc, hl, h => by
    cases us with
    | nil => simp at hl
    | cons u us =>
      unfold loadCellsFrom
      have h0 : w.cell? ((⟨b, o, none⟩ : Addr).add j) = some u := by
        have := h 0 u (by simp)
        unfold Addr.add
        split
        · rename_i hj; subst hj; simpa using this
        · simpa using this
      simp only [Sem.run_bind, run_load, h0, Result.andThen_ok]
      rw [run_loadCells n (j + 1) b o us _ (by simpa using hl) (fun i v hv => by
        have := h (i + 1) v (by simpa using hv)
        rw [show j + 1 + i = j + (i + 1) from by omega]; exact this)]
      simp
theorem run_loadVar {t : TypeId} {y : Ty} (hy : tyOf P t = some y) {b o : Nat} {us : List Value} {u : Value} (hc : ∀ i u, us[i]? = some u → w.cell? ⟨b, o + i, none⟩ = some u)
    (hu : match y.agg with
      | true => us.length = y.size ∧ u = .agg (List.toArray us)
      | false => us[0]? = some u) : (loadVar t ⟨b, o, none⟩).run P w = .ok u w := by
  obtain ⟨d, hd, ha⟩ := tyOf_agg hy
  obtain ⟨i, z, hi, hs, _⟩ := tyOf_zero hy
  unfold loadVar
  simp only [Sem.run_bind, run_isAgg_ hd, Result.andThen_ok, ha]
  cases hag : y.agg with
  | true =>
    rw [hag] at hu
    obtain ⟨hl, rfl⟩ := hu
    simp only [if_true, Sem.run_bind, run_sizeOf_ hi, Result.andThen_ok, loadCells, hs]
    rw [run_loadCells y.size 0 b o us #[] hl (fun i v hv => by rw [Nat.zero_add]; exact hc i v hv)]
    simp
  | false =>
    rw [hag] at hu
    have := hc 0 u hu
    simp only [Nat.add_zero] at this
    simp [this]
theorem cells_of_block {b : Nat} {t : TypeId} {us : List Value} {fz : Nat × Nat} (h : w.heap[b]? = some (.cells (List.toArray us) t fz)) {o : Nat} {u : Value} (hu : us[o]? = some u) : w.cell? ⟨b, o, none⟩ = some u := by
  simp [World.cell?, h, hu]
theorem CAt_cells {Y Z : Nat → Prop} : ∀ {cs : List RV} {b o : Nat}, CAt Y Z w cs b o → ∃ us, RL Y Z w cs us ∧ ∀ (i : Nat) (u : Value), us[i]? = some u → w.cell? ⟨b, o + i, none⟩ = some u
  | [], b, o, _ => ⟨[], by unfold RL; rfl, fun i u h => by simp at h⟩
  | x :: cs, b, o, h => by
    unfold CAt at h
    obtain ⟨⟨u, h1, h2⟩, h3⟩ := h
    obtain ⟨us, h4, h5⟩ := CAt_cells h3
    refine ⟨u :: us, by unfold RL; exact ⟨u, us, rfl, h2, h4⟩, fun i v hv => ?_⟩
    cases i with
    | zero => simp at hv; subst hv; simpa using h1
    | succ i => simp at hv; have := h5 i v hv; rw [show o + (i + 1) = o + 1 + i from by omega]; exact this
theorem RL_rows {E : Env} : ∀ {cs : List RV} {us : List Value}, RL E.Y E.Z w cs us → CL E w (rows cs) us
  | [], us, h => by unfold RL at h; subst h; unfold rows CL; rfl
  | x :: cs, us, h => by
    unfold RL at h
    obtain ⟨u, r, rfl, h2, h3⟩ := h
    unfold rows CL
    exact ⟨u, r, rfl, by unfold C; exact h2, RL_rows h3⟩
theorem RL_take {Y Z : Nat → Prop} : ∀ (n : Nat) {cs : List RV} {us : List Value}, RL Y Z w cs us → RL Y Z w (cs.take n) (us.take n)
  | 0, cs, us, _ => by simp; unfold RL; rfl
  | n + 1, [], us, h => by unfold RL at h; subst h; simp; unfold RL; rfl
  | n + 1, x :: cs, us, h => by
    unfold RL at h
    obtain ⟨u, r, rfl, h2, h3⟩ := h
    simp only [List.take_succ_cons]
    unfold RL
    exact ⟨u, _, rfl, h2, RL_take n h3⟩
/-- A load's answer; cells: what must stand in memory for it. -/
theorem loadA_ok {w0 : World} {X : Org} {y : Ty} {t : TypeId} (hy : tyOf c.P t = some y) (hS : Sat w0 X E H S w) {x : AV} (hl : loadA y H x = some r) {v : Value} (hx : C E w x v) :
    ∃ u, C E w r u ∧ ∃ b o, v = .pointer (some ⟨b, o, none⟩) ∧ b < w.heap.size ∧ (match x with | .box i _ => E.B[i]? = some b | .r (.ro _) => E.Z b | _ => False) ∧ ∀ w' : World, w'.heap[b]? = w.heap[b]? → (loadVar t ⟨b, o, none⟩).run c.P w' = .ok u w' := by
  cases x with
  | box i off =>
    simp only [loadA] at hl
    split at hl
    · rename_i t' cs hi
      obtain ⟨b, us, k1, k2, k3, k4⟩ := hS.box i _ cs hi
      unfold C at hx
      obtain ⟨b', h1, h2⟩ := hx
      rw [k1] at h1; cases h1
      have hul := CL_length k3
      split at hl
      · cases hl
      rename_i hmm
      rw [Bool.or_eq_false_iff] at hmm
      rw [hnd_p hmm.2] at h2
      rw [objOf_c hmm.1] at k2
      split at hl
      · rename_i hag
        split at hl
        · rename_i hle
          cases hl
          have hle' := Nat.le_of_ble_eq_true hle
          refine ⟨.agg (List.toArray ((us.drop off).take y.size)), by unfold C; exact ⟨_, rfl, CL_take (CL_drop k3 off) y.size, fun z hz => k4 z (List.mem_of_mem_drop (List.mem_of_mem_take hz))⟩, b, off, h2, (hS.bB k1).1, k1, fun w' hw' => ?_⟩
          refine run_loadVar hy (us := (us.drop off).take y.size) (fun j u hj => ?_) (by rw [hag]; exact ⟨by simp; omega, rfl⟩)
          rw [List.getElem?_take] at hj
          split at hj
          · rw [List.getElem?_drop] at hj
            exact cells_of_block (hw'.trans k2) hj
          · cases hj
        · cases hl
      · rename_i hag
        obtain ⟨u, m1, m2⟩ := CL_get k3 hl
        refine ⟨u, m2, b, off, h2, (hS.bB k1).1, k1, fun w' hw' => run_loadVar hy (us := us.drop off) (fun j u hj => ?_) (by rw [hag]; simpa using m1)⟩
        rw [List.getElem?_drop] at hj
        exact cells_of_block (hw'.trans k2) hj
    · cases hl
  | r rv =>
    cases rv with
    | ro cs =>
      simp only [loadA] at hl
      unfold C CR at hx
      obtain ⟨b, o', hv, hz, hc⟩ := hx
      obtain ⟨us, h4, h5⟩ := CAt_cells hc
      have hul := RL_length h4
      have cell : ∀ w' : World, w'.heap[b]? = w.heap[b]? → ∀ (i : Nat) (u : Value), us[i]? = some u → w'.cell? ⟨b, o' + i, none⟩ = some u := fun w' hw' i u hu => by
        rw [World.cell?_of_block (w := w) (w' := w') (a := ⟨b, o' + i, none⟩) hw']; exact h5 i u hu
      split at hl
      · rename_i hag
        split at hl
        · rename_i hle
          cases hl
          have hle' := Nat.le_of_ble_eq_true hle
          have ht := RL_take y.size h4
          refine ⟨.agg (List.toArray (us.take y.size)), by unfold C; exact ⟨_, rfl, RL_rows ht, RL_one ht⟩, b, o', hv, hS.Z b hz, hz, fun w' hw' => ?_⟩
          refine run_loadVar hy (us := us.take y.size) (fun j u hj => ?_) (by rw [hag]; exact ⟨by simp; omega, rfl⟩)
          rw [List.getElem?_take] at hj
          split at hj
          · exact cell w' hw' j u hj
          · cases hj
        · cases hl
      · rename_i hag
        split at hl
        · rename_i x xs
          cases hl
          unfold RL at h4
          obtain ⟨u, rr, rfl, h6, h7⟩ := h4
          exact ⟨u, by unfold C; exact h6, b, o', hv, hS.Z b hz, hz, fun w' hw' => run_loadVar hy (us := u :: rr) (cell w' hw') (by rw [hag]; simp)⟩
        · cases hl
    | _ => simp [loadA] at hl
  | _ => simp [loadA] at hl
theorem r_load {t : TypeId} {y : Ty} {x : Operand} {v : AV} (hT : TabOk c.P c.T) (hi : ops[i]? = some o) (hop : o.op = .load t x) (hd : o.dst = some d) (hn : Nat.blt d c.n = true) (hg : gOk ops F o.guard = some true)
    (hx : ev F x = some v) (hy : c.T.get t = some y) (hm : lOk m st v = true) (hl : loadA y H v = some r) (h : GR c ops kz q st sch ((d, r) :: F) H S) : GR c ops kz q st ((i, m) :: sch) F H S := by
  intro E a w h1 h2 h3 h4 h5
  obtain ⟨u, hu, b, o', hv, hlt, hwh, hrun⟩ := loadA_ok (hT t y hy) h4 hl (h3.ev hx)
  have rest : Seq c.yl c.P ops (RT c kz.k ops q kz.T) (Sx q) sch (a.put o.dst u) w := by
    rw [hd]
    refine h E _ w ?_ ?_ (h3.put hu (by rw [h1]; exact hn)) h4 h5
    · rw [(put_size _ _ _).1]; exact h1
    · rw [(put_size _ _ _).2]; exact h2
  have run : ∀ w' : World, w'.heap[b]? = w.heap[b]? → (execOp a.eval o).run c.P w' = .ok (.value u) w' := fun w' hw' => by
    unfold execOp
    simp only [hop, hv, Instr.loadAt, Instr.sureAddr, pure_bind, Sem.run_bind, hrun w' hw', Result.andThen_ok, Sem.run_pure]
  have hw := gOk_ok (o := o) h3 hg
  cases m with
  | p => cases st <;> cases hm
  | o => cases st with
    | none => cases hm
    | some s => exact seq_value hi hw (run w rfl) (.inl ⟨rfl, sx_of h5 rfl⟩) rest
  | l => exact seq_value hi hw (run w rfl) (.inr rfl) rest
  | t => cases st with
    | none => cases hm
    | some s =>
      obtain ⟨hq, inv⟩ := h5 s rfl
      refine ⟨o, hi, u, .inl ⟨hw, fun w' hw' => run w' ?_⟩, sx_of h5 rfl, rest⟩
      rw [hq] at hw'
      have hb : s.K b := by
        cases v with
        | box j off =>
          simp only [lOk, oldA] at hm
          exact inv.B j b (Nat.le_of_ble_eq_true hm) hwh
        | r rv => cases rv with
          | ro cs => exact inv.Z (by simpa [lOk, oldA] using hm) b hwh
          | _ => simp [loadA] at hl
        | _ => simp [loadA] at hl
      exact (hw'.2 b hb).trans (inv.keeps.2 b hb).symm
end
end Go.Proofs.Ytmocggibcniggaa.Kw
namespace Go.Proofs.Ytmocggibcniggaa.Kw
open Go
/-- The cells of a value. -/
def cellsA : AV → Option (List AV)
  | .agg cs => some cs
  | x => match cellA x with
    | true => some [x]
    | false => none
def oOk (m : Md) (st : Option St) : Bool := match m, st with
  | .l, none => true
  | .o, some _ => true
  | _, _ => false
section
variable {c : Ctx} {ops : Array Oper} {k : List Item} {kz : Kz} {q st : Option St} {i : Nat} {m : Md} {sch : List (Nat × Md)} {F : Fr} {H : Hp} {S : Sp} {o : Oper} {d : Nat} {r : AV} {E E' : Env} {a : Act} {w w' : World} {P : Program}
theorem cellsA_ok {x : AV} {cs : List AV} {u : Value} (h : cellsA x = some cs) (hx : C E w x u) : ∃ us, u.cells = List.toArray us ∧ CL E w cs us ∧ ∀ z ∈ us, z.oneCell' = true := by
  unfold cellsA at h
  split at h
  · cases h
    unfold C at hx
    obtain ⟨us, rfl, h1, h2⟩ := hx
    exact ⟨us, rfl, h1, h2⟩
  · split at h
    · rename_i hc
      cases h
      have h1 := cellA_one hc hx
      refine ⟨[u], by rw [one_cells h1], by unfold CL; exact ⟨u, [], rfl, hx, by unfold CL; rfl⟩, fun z hz => by rw [List.mem_singleton.1 hz]; exact h1⟩
    · cases h
/-- The world has grown alone. -/
theorem Inv.grow {s : St} (h : Inv s E w) (hsz : w.heap.size ≤ w'.heap.size) (hb : ∀ b, b < w.heap.size → w'.heap[b]? = w.heap[b]?) (hB : ∀ (i b : Nat), i < s.n1 → E'.B[i]? = some b → E.B[i]? = some b)
    (hV : ∀ (i : Nat) (e : SE) (fp : List Nat), s.S1[i]? = some (some e) → E'.P[i]? = some fp → E.P[i]? = some fp) (hZ : ∀ b, E'.Z b → E.Z b) (hO : ∀ (b : Nat) (x : Nat ⊕ Nat), b < w.heap.size → E'.O b = some x → E.O b = some x) : Inv s E' w' :=
  ⟨⟨Nat.le_trans h.keeps.1 hsz, fun b hlt => (hb b (Nat.lt_of_lt_of_le (h.below b hlt) h.keeps.1)).trans (h.keeps.2 b hlt)⟩, h.below, fun i b hi hb => h.B i b hi (hB i b hi hb), fun i e v b hi hv => h.V i e v b hi (hV i e v hi hv), fun hz b hb => h.Z hz b (hZ b hb), fun b x hk hx => h.dis b x hk (hO b x (Nat.lt_of_lt_of_le (h.below b hk) h.keeps.1) hx)⟩
/-- The general step of an operation that yields a value, memory growing. -/
theorem gr_grow (hi : ops[i]? = some o) (hd : o.dst = some d) (hn : Nat.blt d c.n = true) (hg : gOk ops F o.guard = some true) (hm : oOk m st = true) {H' : Hp} {S' : Sp}
    (hr : ∀ E a w, Fits E w F a → Sat c.w0 c.X E H S w → ∃ E' w' u, (execOp a.eval o).run c.P w = .ok (.value u) w' ∧ C E' w' r u ∧ Fits E' w' F a ∧ Sat c.w0 c.X E' H' S' w' ∧ (∀ s, Inv s E w → s.n1 ≤ H.length → s.S1.length ≤ S.length → Inv s E' w'))
    (hn1 : ∀ s, st = some s → s.n1 ≤ H.length) (hm1 : ∀ s, st = some s → s.S1.length ≤ S.length)
    (h : GR c ops kz q st sch ((d, r) :: F) H' S') : GR c ops kz q st ((i, m) :: sch) F H S := by
  intro E a w h1 h2 h3 h4 h5
  obtain ⟨E', w', u, k1, k2, k3, k4, k5⟩ := hr E a w h3 h4
  have h5' : ∀ s, st = some s → q = some s ∧ Inv s E' w' := fun s hs => ⟨(h5 s hs).1, k5 s (h5 s hs).2 (hn1 s hs) (hm1 s hs)⟩
  refine seq_value hi (gOk_ok (o := o) h3 hg) k1 ?_ ?_
  · cases m with
    | o => cases st with
      | none => cases hm
      | some s => exact .inl ⟨rfl, sx_of h5' rfl⟩
    | l => exact .inr rfl
    | _ => cases st <;> cases hm
  · rw [hd]
    refine h E' _ w' ?_ ?_ (k3.put k2 (by rw [h1]; exact hn)) k4 h5'
    · rw [(put_size _ _ _).1]; exact h1
    · rw [(put_size _ _ _).2]; exact h2
def stLe (st : Option St) (n m : Nat) : Bool := match st with
  | none => true
  | some s => Nat.ble s.n1 n && Nat.ble s.S1.length m
theorem stLe_ok {n m : Nat} (h : stLe st n m = true) : (∀ s, st = some s → s.n1 ≤ n) ∧ (∀ s, st = some s → s.S1.length ≤ m) := by
  cases st with
  | none => exact ⟨fun s hs => (by cases hs), fun s hs => (by cases hs)⟩
  | some s =>
    unfold stLe at h
    simp only [Bool.and_eq_true] at h
    exact ⟨fun s' hs => by cases hs; exact Nat.le_of_ble_eq_true h.1, fun s' hs => by cases hs; exact Nat.le_of_ble_eq_true h.2⟩
theorem new_block (h3 : Fits E w F a) (h4 : Sat c.w0 c.X E H S w) {t : TypeId} {cs : List AV} {us : List Value} (hc : CL E w cs us) (h1 : ∀ z ∈ us, z.oneCell' = true) (hmp : isMp t = false) :
    ∃ E', C E' { w with heap := w.heap.push (.cells (List.toArray us) t (0, 0)) } (.box H.length 0) (.pointer (some ⟨w.heap.size, 0, none⟩)) ∧ Fits E' { w with heap := w.heap.push (.cells (List.toArray us) t (0, 0)) } F a ∧
      Sat c.w0 c.X E' (H ++ [some (t, cs)]) S { w with heap := w.heap.push (.cells (List.toArray us) t (0, 0)) } ∧ (∀ s, Inv s E w → s.n1 ≤ H.length → s.S1.length ≤ S.length → Inv s E' { w with heap := w.heap.push (.cells (List.toArray us) t (0, 0)) }) := by
  have hs := stays_push w (.cells (List.toArray us) t (0, 0))
  have hnw := h4.new (t := t) hc h1
  rw [objOf_c hmp] at hnw
  refine ⟨E.withB w.heap.size, ?_, h3.mono h4.YZ (le_B E _) (fun b hb => hs.blk (h4.Z b hb)), hnw, fun s inv hn _ => ?_⟩
  · unfold C
    exact ⟨w.heap.size, by simp [← h4.lB], rfl⟩
  · refine inv.grow hs.size (fun b hb => hs.blk hb) (fun i b hi hb => ?_) (fun _ _ _ _ hv => hv) (fun _ hz => hz) (fun b x hlt hx => by
      have hx' : (if b = w.heap.size then some (Sum.inl E.B.length) else E.O b) = some x := hx
      rwa [if_neg (Nat.ne_of_lt hlt)] at hx')
    have hl : i < E.B.length := by rw [h4.lB]; omega
    have hb' : (E.B ++ [w.heap.size])[i]? = some b := hb
    rwa [List.getElem?_append_left hl] at hb'
theorem r_box {t : TypeId} {x : Operand} {v : AV} {cs : List AV} (hi : ops[i]? = some o) (hop : o.op = .box t x) (hd : o.dst = some d) (hn : Nat.blt d c.n = true) (hg : gOk ops F o.guard = some true) (hm : oOk m st = true) (hst : stLe st H.length S.length = true)
    (hx : ev F x = some v) (hv : cellsA v = some cs) (h : GR c ops kz q st sch ((d, .box H.length 0) :: F) (H ++ [some (t, cs)]) S) (hmp : isMp t = false := by rfl) : GR c ops kz q st ((i, m) :: sch) F H S := by
  refine gr_grow hi hd hn hg hm (fun E a w h3 h4 => ?_) (stLe_ok hst).1 (stLe_ok hst).2 h
  obtain ⟨us, k1, k2, k3⟩ := cellsA_ok hv (h3.ev hx)
  obtain ⟨E', m1, m2, m3, m4⟩ := new_block (t := t) h3 h4 k2 k3 hmp
  refine ⟨E', _, _, ?_, m1, m2, m3, m4⟩
  unfold execOp
  simp [hop, Instr.box, newVar, newRow, k1]
theorem r_alloc {t : TypeId} {y : Ty} (hT : TabOk c.P c.T) (hi : ops[i]? = some o) (hop : o.op = .alloc t) (hd : o.dst = some d) (hn : Nat.blt d c.n = true) (hg : gOk ops F o.guard = some true) (hm : oOk m st = true) (hst : stLe st H.length S.length = true)
    (hy : c.T.get t = some y) (hz : allOne y.zero = true) (h : GR c ops kz q st sch ((d, .box H.length 0) :: F) (H ++ [some (t, raw y.zero)]) S) (hmp : isMp t = false := by rfl) : GR c ops kz q st ((i, m) :: sch) F H S := by
  refine gr_grow hi hd hn hg hm (fun E a w h3 h4 => ?_) (stLe_ok hst).1 (stLe_ok hst).2 h
  obtain ⟨ti, z, hti, _, _, hz0, hzc⟩ := tyOf_zero (hT t y hy)
  obtain ⟨E', m1, m2, m3, m4⟩ := new_block (t := t) h3 h4 (raw_CL hz) (allOne_mem hz) hmp
  refine ⟨E', _, _, ?_, m1, m2, m3, m4⟩
  have hzc' : z.cells = List.toArray y.zero := by rw [← hzc]
  unfold execOp
  simp [hop, Instr.alloc, newVar, newRow, run_zero_ hti hz0, hzc']
/-! ### a store -/
theorem setCell_same {b off : Nat} {v : Value} {us : List Value} {t : TypeId} (h : w.heap[b]? = some (.cells (List.toArray us) t (0, 0))) : (w.setCell ⟨b, off, none⟩ v).heap[b]? = some (.cells (List.toArray (us.set off v)) t (0, 0)) := by
  simp [World.setCell, Array.getElem?_modify, h]
theorem setCell_other {b off k : Nat} {v : Value} (h : k ≠ b) : (w.setCell ⟨b, off, none⟩ v).heap[k]? = w.heap[k]? := by
  simp [World.setCell, Array.getElem?_modify, Ne.symm h]
theorem setCell_size {p : Addr} {v : Value} : (w.setCell p v).heap.size = w.heap.size := by simp [World.setCell]
def setV : List Value → Nat → List Value → List Value
  | us, _, [] => us
  | us, off, v :: vs => setV (us.set off v) (off + 1) vs
theorem setV_length : ∀ (vs us : List Value) (off : Nat), (setV us off vs).length = us.length
  | [], us, off => rfl
  | v :: vs, us, off => by unfold setV; rw [setV_length vs]; simp
theorem CL_setFrom : ∀ {ds cs : List AV} {us vs : List Value} {off : Nat}, CL E w cs us → CL E w ds vs → CL E w (setFrom cs off ds) (setV us off vs)
  | [], cs, us, vs, off, h, h' => by unfold CL at h'; subst h'; exact h
  | x :: ds, cs, us, vs, off, h, h' => by
    unfold CL at h'
    obtain ⟨u, r, rfl, h2, h3⟩ := h'
    unfold setFrom setV
    exact CL_setFrom (CL_set h off h2) h3
theorem setV_one : ∀ {vs us : List Value} {off : Nat}, (∀ z ∈ us, z.oneCell' = true) → (∀ z ∈ vs, z.oneCell' = true) → ∀ z ∈ setV us off vs, z.oneCell' = true
  | [], us, off, h, _ => h
  | v :: vs, us, off, h, h' => by
    unfold setV
    refine setV_one (fun z hz => ?_) (fun z hz => h' z (by simp [hz]))
    rcases List.mem_or_eq_of_mem_set hz with hz | rfl
    · exact h z hz
    · exact h' z (by simp)
/-- Cells stored one behind the other. -/
theorem run_storeCells {t : TypeId} : ∀ (vs : List Value) (w : World) (b o j : Nat) (us : List Value), w.heap[b]? = some (.cells (List.toArray us) t (0, 0)) → (∀ z ∈ vs, z.oneCell' = true) → o + j + vs.length ≤ us.length →
    ∃ w', (storeCells ⟨b, o, none⟩ vs j).run P w = .ok () w' ∧ w'.heap[b]? = some (.cells (List.toArray (setV us (o + j) vs)) t (0, 0)) ∧ (∀ k, k ≠ b → w'.heap[k]? = w.heap[k]?) ∧ w'.heap.size = w.heap.size ∧ w'.os = w.os ∧ w'.tape = w.tape ∧ w'.output = w.output
  | [], w, b, o, j, us, h, _, _ => ⟨w, by unfold storeCells; rfl, by unfold setV; exact h, fun _ _ => rfl, rfl, rfl, rfl, rfl⟩
  | v :: vs, w, b, o, j, us, h, h1, hl => by
    have ha : (⟨b, o, none⟩ : Addr).add j = ⟨b, o + j, none⟩ := by
      unfold Addr.add
      split
      · rename_i hj; subst hj; rfl
      · rfl
    have hlt : o + j < us.length := by simp at hl; omega
    have hc : w.cell? ⟨b, o + j, none⟩ = some us[o + j] := cells_of_block h (List.getElem?_eq_getElem hlt)
    have hf : w.frozen? ⟨b, o + j, none⟩ = false := by simp [World.frozen?, h]
    obtain ⟨w', k1, k2, k3, k4, k5, k6, k7⟩ := run_storeCells vs (w.setCell ⟨b, o + j, none⟩ v) b o (j + 1) (us.set (o + j) v) (setCell_same h) (fun z hz => h1 z (by simp [hz])) (by simp at hl ⊢; omega)
    refine ⟨w', ?_, ?_, fun k hk => (k3 k hk).trans (setCell_other hk), k4.trans setCell_size, k5, k6, k7⟩
    · unfold storeCells
      rw [ha, Sem.run_bind, run_store _ _ _ _ _ (h1 v (by simp)), hc]
      simp only [hf]
      exact k1
    · unfold setV
      rw [show o + j + 1 = o + (j + 1) from by omega]
      exact k2
theorem run_storeVar {t u : TypeId} {y : Ty} (hy : tyOf P t = some y) {b o : Nat} {us vs : List Value} {v : Value} (h : w.heap[b]? = some (.cells (List.toArray us) u (0, 0))) (hv : v.cells = List.toArray vs) (hl : vs.length = y.size) (h1 : ∀ z ∈ vs, z.oneCell' = true) (hle : o + y.size ≤ us.length) :
    ∃ w', (storeVar t ⟨b, o, none⟩ v).run P w = .ok () w' ∧ w'.heap[b]? = some (.cells (List.toArray (setV us o vs)) u (0, 0)) ∧ (∀ k, k ≠ b → w'.heap[k]? = w.heap[k]?) ∧ w'.heap.size = w.heap.size ∧ w'.os = w.os ∧ w'.tape = w.tape ∧ w'.output = w.output := by
  obtain ⟨i, z, hi, hs, _⟩ := tyOf_zero hy
  obtain ⟨w', k⟩ := run_storeCells (P := P) vs w b o 0 us h h1 (by simp; omega)
  refine ⟨w', ?_, by simpa using k.2⟩
  unfold storeVar
  have hsz : ¬ (v.cells.size ≠ i.size) := by rw [hv, hs]; simp [hl]
  simp only [Sem.run_bind, run_sizeOf_ hi, Result.andThen_ok, if_neg hsz]
  rw [hv]
  simpa using k.1
theorem r_store {t : TypeId} {y : Ty} {x z : Operand} {j off : Nat} {v : AV} {u : TypeId} {cs ds : List AV} (hT : TabOk c.P c.T) (hi : ops[i]? = some o) (hop : o.op = .store t x z) (hd : o.dst = none) (hg : gOk ops F o.guard = some true)
    (hx : ev F x = some (.box j off)) (hz : ev F z = some v) (hv : cellsA v = some ds) (hy : c.T.get t = some y) (hH : H[j]? = some (some (u, cs))) (hl : (Nat.beq ds.length y.size && Nat.ble (off + y.size) cs.length) = true)
    (h : GR c ops kz q none sch F (H.set j (some (u, setFrom cs off ds))) S) (hmp : isMp u = false := by rfl) (hmo : isMo off = false := by rfl) : GR c ops kz q st ((i, .l) :: sch) F H S := by
  intro E a w h1 h2 h3 h4 h5
  rw [Bool.and_eq_true] at hl
  have hl1 : ds.length = y.size := Nat.eq_of_beq_eq_true hl.1
  have hl2 := Nat.le_of_ble_eq_true hl.2
  obtain ⟨vs, e1, e2, e3⟩ := cellsA_ok hv (h3.ev hz)
  obtain ⟨b, us, k1, k2, k3, k4⟩ := h4.box j _ cs hH
  have hp := h3.ev hx
  unfold C at hp
  obtain ⟨b', hb', hpv⟩ := hp
  rw [k1] at hb'; cases hb'
  rw [hnd_p hmo] at hpv
  rw [objOf_c hmp] at k2
  obtain ⟨w', m1, m2, m3, m4, m5, m6, m7⟩ := run_storeVar (hT t y hy) (o := off) k2 e1 ((CL_length e2).trans hl1) e3 (by rw [CL_length k3]; omega)
  have hsat := h4.upd (w' := w') hH k1 ⟨by rw [m4]; exact Nat.le_refl _, fun k _ hk => m3 k hk, m5, m6, m7, run_drawn _ _ _ _ m1⟩ (by rw [objOf_c hmp]; exact m2) (CL_setFrom k3 e2) (setV_one k4 e3)
  refine seq_skip hi (gOk_ok (o := o) h3 hg) (w' := w') ?_ (.inr rfl) ?_
  · unfold execOp
    simp only [hop, hpv, Instr.storeAt, Instr.sureAddr, pure_bind, Sem.run_bind, m1, Result.andThen_ok, Sem.run_pure]
  · rw [hd]
    exact h E a w' h1 h2 (h3.mono h4.YZ (Env.le_refl E) (fun b hb => m3 b (fun e => (h4.bB k1).2.2 (e ▸ hb)))) hsat (fun s hs => by cases hs)
end
end Go.Proofs.Ytmocggibcniggaa.Kw
namespace Go.Proofs.Ytmocggibcniggaa.Kw
open Go
/-! ### forms of what is handed over -/
mutual
def freeA : AV → Bool
  | .r _ => true
  | .agg cs => freeL cs
  | .tup cs => freeL cs
  | .fn _ cs => freeL cs
  | _ => false
def freeL : List AV → Bool
  | [] => true
  | c :: cs => freeA c && freeL cs
end
mutual
/-- What may be told to the caller. -/
def stA : AV → Bool
  | .r x => stR x
  | .sl _ => true
  | .box _ _ => true
  | .agg cs => stAL cs
  | .tup cs => stAL cs
  | .fn _ cs => stAL cs
  | .junk => true
  | _ => false
def stAL : List AV → Bool
  | [] => true
  | c :: cs => stA c && stAL cs
end
mutual
/-- Values, and slices of the callee's. -/
def plainA : AV → Bool
  | .r (.v _) => true
  | .sl _ => true
  | .agg cs => plainL cs
  | .tup cs => plainL cs
  | _ => false
def plainL : List AV → Bool
  | [] => true
  | c :: cs => plainA c && plainL cs
end
mutual
theorem st_plain : ∀ (x : AV), plainA x = true → stA x = true
  | .r (.v _), _ => rfl
  | .r (.ro _), h => by cases h
  | .r (.rs _ _), h => by cases h
  | .r (.fs _ _), h => by cases h
  | .r (.os _ _ _), h => by cases h
  | .r .any, h => by cases h
  | .sl _, _ => rfl
  | .box _ _, _ => rfl
  | .agg cs, h => by unfold stA; unfold plainA at h; exact st_plainL cs h
  | .tup cs, h => by unfold stA; unfold plainA at h; exact st_plainL cs h
  | .fn _ _, h => by cases h
  | .junk, _ => rfl
  | .el _ _ _ _, h => by cases h
  | .ss _ _ _ _, h => by cases h
  | .cap _, h => by cases h
  | .capLe _ _, h => by cases h
  | .capGt _ _, h => by cases h
theorem st_plainL : ∀ (xs : List AV), plainL xs = true → stAL xs = true
  | [], _ => rfl
  | c :: cs, h => by
    unfold plainL at h
    rw [Bool.and_eq_true] at h
    unfold stAL
    rw [Bool.and_eq_true]
    exact ⟨st_plain c h.1, st_plainL cs h.2⟩
end
def stO : RV → Bool
  | .os _ _ L => stLL L
  | x => stR x
def stOL : List RV → Bool
  | [] => true
  | c :: cs => stO c && stOL cs
def stOLL : List (List RV) → Bool
  | [] => true
  | r :: L => stOL r && stOLL L
def stE (e : SE) : Bool := match e.ns with
  | false => stLL e.L
  | true => stOLL e.L
def PlainS (S : Sp) : Prop := ∀ e ∈ S, ∀ s : SE, e = some s → s.ns = false ∧ ∀ row ∈ s.L, ∀ x ∈ row, ∃ v, x = RV.v v
theorem PlainS.nil : PlainS [] := fun _ h => by cases h
def StS (S : Sp) : Prop := ∀ e ∈ S, ∀ s : SE, e = some s → stE s = true
theorem StS.nil : StS [] := fun _ h => by cases h
def StH (H : Hp) : Prop := ∀ e ∈ H, ∀ t cs, e = some (t, cs) → stAL cs = true
theorem StH.nil : StH [] := fun _ h => by cases h
/-- What the callee numbers so the caller numbers so. -/
structure Mv where
  hb : List Nat
  nH : Nat
  nS : Nat
def getN : List Nat → Nat → Option Nat
  | [], _ => none
  | x :: _, 0 => some x
  | _ :: xs, n + 1 => getN xs n
theorem getN_eq : ∀ (l : List Nat) (n : Nat), getN l n = l[n]?
  | [], n => by simp [getN]
  | x :: xs, 0 => rfl
  | x :: xs, n + 1 => by simp [getN, getN_eq xs n]
def Mv.bx (m : Mv) (j : Nat) : Nat := match getN m.hb j with
  | some i => i
  | none => m.nH + (j - m.hb.length)
mutual
def mvA (m : Mv) : AV → AV
  | .sl k => .sl (m.nS + k)
  | .box i o => .box (m.bx i) o
  | .agg cs => .agg (mvL m cs)
  | .tup cs => .tup (mvL m cs)
  | .fn f cs => .fn f (mvL m cs)
  | .r x => .r x
  | _ => .junk
def mvL (m : Mv) : List AV → List AV
  | [] => []
  | c :: cs => mvA m c :: mvL m cs
end
def mvH (m : Mv) : Hp → Hp
  | [] => []
  | none :: H => none :: mvH m H
  | some (t, cs) :: H => some (t, mvL m cs) :: mvH m H
theorem mvH_length (m : Mv) : ∀ (H : Hp), (mvH m H).length = H.length
  | [] => rfl
  | none :: H => by simp [mvH, mvH_length m H]
  | some (t, cs) :: H => by simp [mvH, mvH_length m H]
theorem mvH_get {m : Mv} : ∀ {H : Hp} {i : Nat} {t : TypeId} {ds : List AV}, (mvH m H)[i]? = some (some (t, ds)) → ∃ cs, H[i]? = some (some (t, cs)) ∧ ds = mvL m cs
  | [], i, t, ds, h => by simp [mvH] at h
  | none :: H, i, t, ds, h => by
    cases i with
    | zero => simp [mvH] at h
    | succ i => simp only [mvH, List.getElem?_cons_succ] at h ⊢; exact mvH_get h
  | some (t', cs) :: H, i, t, ds, h => by
    cases i with
    | zero => simp [mvH] at h; obtain ⟨rfl, rfl⟩ := h; exact ⟨cs, by simp, rfl⟩
    | succ i => simp only [mvH, List.getElem?_cons_succ] at h ⊢; exact mvH_get h
section
variable {E E1 E2 : Env} {w : World} {m : Mv}
mutual
theorem C_mv (hB : ∀ (i b : Nat), E1.B[i]? = some b → E2.B[m.bx i]? = some b) (hV : ∀ (k : Nat) (v : Value), E1.V[k]? = some v → E2.V[m.nS + k]? = some v) (hY : ∀ b, E1.Y b → E2.Y b) : ∀ (x : AV) (u : Value), stA x = true → C E1 w x u → C E2 w (mvA m x) u
  | .r x, u, hf, h => by unfold mvA C; unfold C at h; exact CR_st hY (fun _ _ => rfl) x u hf h
  | .sl k, u, _, h => by unfold mvA C; unfold C at h; exact ⟨hV k u h.1, h.2⟩
  | .box i o, u, _, h => by unfold mvA C; unfold C at h; obtain ⟨b, h1, h2⟩ := h; exact ⟨b, hB i b h1, h2⟩
  | .agg cs, u, hf, h => by unfold mvA C; unfold C at h; obtain ⟨us, h1, h2, h3⟩ := h; exact ⟨us, h1, CL_mv hB hV hY cs us hf h2, h3⟩
  | .tup cs, u, hf, h => by unfold mvA C; unfold C at h; obtain ⟨us, h1, h2⟩ := h; exact ⟨us, h1, CL_mv hB hV hY cs us hf h2⟩
  | .fn f cs, u, hf, h => by unfold mvA C; unfold C at h; obtain ⟨us, h1, h2⟩ := h; exact ⟨us, h1, CL_mv hB hV hY cs us hf h2⟩
  | .junk, u, _, h => by unfold mvA C; trivial
  | .el _ _ _ _, _, hf, _ => by cases hf
  | .ss _ _ _ _, _, hf, _ => by cases hf
  | .cap _, _, hf, _ => by cases hf
  | .capLe _ _, _, hf, _ => by cases hf
  | .capGt _ _, _, hf, _ => by cases hf
theorem CL_mv (hB : ∀ (i b : Nat), E1.B[i]? = some b → E2.B[m.bx i]? = some b) (hV : ∀ (k : Nat) (v : Value), E1.V[k]? = some v → E2.V[m.nS + k]? = some v) (hY : ∀ b, E1.Y b → E2.Y b) : ∀ (xs : List AV) (us : List Value), stAL xs = true → CL E1 w xs us → CL E2 w (mvL m xs) us
  | [], us, _, h => by unfold mvL CL; unfold CL at h; exact h
  | c :: cs, us, hf, h => by
    unfold stAL at hf
    rw [Bool.and_eq_true] at hf
    unfold mvL CL
    unfold CL at h
    obtain ⟨u, r, h1, h2, h3⟩ := h
    exact ⟨u, r, h1, C_mv hB hV hY c u hf.1 h2, CL_mv hB hV hY cs r hf.2 h3⟩
end
mutual
/-- A plain answer, its slices numbered behind those that were. -/
def shA (n : Nat) : AV → AV
  | .sl k => .sl (n + k)
  | .agg cs => .agg (shL n cs)
  | .tup cs => .tup (shL n cs)
  | x => x
def shL (n : Nat) : List AV → List AV
  | [] => []
  | c :: cs => shA n c :: shL n cs
end
mutual
theorem C_sh {n : Nat} (hV : ∀ (k : Nat) (v : Value), E1.V[k]? = some v → E2.V[n + k]? = some v) : ∀ (x : AV) (u : Value), plainA x = true → C E1 w x u → C E2 w (shA n x) u
  | .r (.v x), u, _, h => by unfold shA C CR; unfold C CR at h; exact h
  | .r (.ro _), _, hf, _ => by cases hf
  | .r (.rs _ _), _, hf, _ => by cases hf
  | .r (.fs _ _), _, hf, _ => by cases hf
  | .r (.os _ _ _), _, hf, _ => by cases hf
  | .r .any, _, hf, _ => by cases hf
  | .agg cs, u, hf, h => by unfold shA C; unfold C at h; obtain ⟨us, h1, h2, h3⟩ := h; exact ⟨us, h1, CL_sh hV cs us hf h2, h3⟩
  | .tup cs, u, hf, h => by unfold shA C; unfold C at h; obtain ⟨us, h1, h2⟩ := h; exact ⟨us, h1, CL_sh hV cs us hf h2⟩
  | .sl k, u, _, h => by unfold shA C; unfold C at h; exact ⟨hV k u h.1, h.2⟩
  | .fn _ _, _, hf, _ => by cases hf
  | .box _ _, _, hf, _ => by cases hf
  | .el _ _ _ _, _, hf, _ => by cases hf
  | .junk, _, hf, _ => by cases hf
  | .ss _ _ _ _, _, hf, _ => by cases hf
  | .cap _, _, hf, _ => by cases hf
  | .capLe _ _, _, hf, _ => by cases hf
  | .capGt _ _, _, hf, _ => by cases hf
theorem CL_sh {n : Nat} (hV : ∀ (k : Nat) (v : Value), E1.V[k]? = some v → E2.V[n + k]? = some v) : ∀ (xs : List AV) (us : List Value), plainL xs = true → CL E1 w xs us → CL E2 w (shL n xs) us
  | [], us, _, h => by unfold shL CL; unfold CL at h; exact h
  | c :: cs, us, hf, h => by
    unfold plainL at hf
    rw [Bool.and_eq_true] at hf
    unfold shL CL
    unfold CL at h
    obtain ⟨u, r, h1, h2, h3⟩ := h
    exact ⟨u, r, h1, C_sh hV c u hf.1 h2, CL_sh hV cs r hf.2 h3⟩
end
variable {Y Y' Z Z' : Nat → Prop}
section
variable (hY : ∀ b, Y b → Y' b)
include hY
theorem RL_st : ∀ {xs : List RV} {us : List Value}, stL xs = true → RL Y Z w xs us → RL Y' Z' w xs us
  | [], us, _, h => by unfold RL at h ⊢; exact h
  | c :: cs, us, hs, h => by
    unfold stL at hs
    rw [Bool.and_eq_true] at hs
    unfold RL at h ⊢
    obtain ⟨u, r, h1, h2, h3⟩ := h
    exact ⟨u, r, h1, CR_st hY (fun _ _ => rfl) c u hs.1 h2, RL_st hs.2 h3⟩
theorem Rows_st {sz : Nat} : ∀ {L : List (List RV)} {us : List Value}, stLL L = true → Rows Y Z w sz L us → Rows Y' Z' w sz L us
  | [], us, _, h => by unfold Rows at h ⊢; exact h
  | r :: L, us, hs, h => by
    unfold stLL at hs
    rw [Bool.and_eq_true] at hs
    unfold Rows at h ⊢
    obtain ⟨a, b, h1, h2, h3, h4⟩ := h
    exact ⟨a, b, h1, h2, RL_st hY hs.1 h3, Rows_st hs.2 h4⟩
theorem OR_st {x : RV} {u : Value} {fp : List Nat} (hs : stO x = true) (h : OR Y Z w x u fp) : OR Y' Z' w x u fp := by
  cases x with
  | os e sz L =>
    obtain ⟨cs, h1, h2, h3⟩ := h
    exact ⟨cs, h1, Rows_st hY hs h2, h3⟩
  | _ => exact ⟨CR_st hY (fun _ _ => rfl) _ _ hs h.1, h.2⟩
theorem ORL_st : ∀ {xs : List RV} {us : List Value} {fp : List Nat}, stOL xs = true → ORL Y Z w xs us fp → ORL Y' Z' w xs us fp
  | [], us, fp, _, h => by unfold ORL at h ⊢; exact h
  | c :: cs, us, fp, hs, h => by
    unfold stOL at hs
    rw [Bool.and_eq_true] at hs
    unfold ORL at h ⊢
    obtain ⟨u, r, f, g, h1, h2, h3, h4⟩ := h
    exact ⟨u, r, f, g, h1, OR_st hY hs.1 h2, ORL_st hs.2 h3, h4⟩
theorem ORows_st {sz : Nat} : ∀ {L : List (List RV)} {us : List Value} {fp : List Nat}, stOLL L = true → ORows Y Z w sz L us fp → ORows Y' Z' w sz L us fp
  | [], us, fp, _, h => by unfold ORows at h ⊢; exact h
  | r :: L, us, fp, hs, h => by
    unfold stOLL at hs
    rw [Bool.and_eq_true] at hs
    unfold ORows at h ⊢
    obtain ⟨a, b, f, g, h1, h2, h3, h4, h5⟩ := h
    exact ⟨a, b, f, g, h1, h2, ORL_st hY hs.1 h3, ORows_st hs.2 h4, h5⟩
theorem OwnE_st {e : SE} {v : Value} {fp : List Nat} (hs : stE e = true) (h : OwnE Y Z w e v fp) : OwnE Y' Z' w e v fp := by
  obtain ⟨cs, f, h1, h2, h3⟩ := h
  refine ⟨cs, f, h1, ?_, h3⟩
  unfold RowsE at h2 ⊢
  unfold stE at hs
  cases hn : e.ns with
  | false => rw [hn] at h2 hs; exact ⟨Rows_st hY hs h2.1, h2.2⟩
  | true => rw [hn] at h2 hs; exact ORows_st hY hs h2
end
end
section
variable {Y Y' Z Z' : Nat → Prop} {w : World}
theorem RL_plain : ∀ {xs : List RV} {us : List Value}, (∀ x ∈ xs, ∃ v, x = RV.v v) → RL Y Z w xs us → RL Y' Z' w xs us
  | [], us, _, h => by unfold RL at h ⊢; exact h
  | x :: xs, us, hp, h => by
    unfold RL at h ⊢
    obtain ⟨u, r, h1, h2, h3⟩ := h
    obtain ⟨v, rfl⟩ := hp x (by simp)
    exact ⟨u, r, h1, by unfold CR at h2 ⊢; exact h2, RL_plain (fun y hy => hp y (by simp [hy])) h3⟩
theorem Rows_plain {sz : Nat} : ∀ {L : List (List RV)} {us : List Value}, (∀ row ∈ L, ∀ x ∈ row, ∃ v, x = RV.v v) → Rows Y Z w sz L us → Rows Y' Z' w sz L us
  | [], us, _, h => by unfold Rows at h ⊢; exact h
  | r :: L, us, hp, h => by
    unfold Rows at h ⊢
    obtain ⟨a, b, h1, h2, h3, h4⟩ := h
    exact ⟨a, b, h1, h2, RL_plain (hp r (by simp)) h3, Rows_plain (fun row hr => hp row (by simp [hr])) h4⟩
theorem OwnE_plain {e : SE} {v : Value} {fp : List Nat} (hn : e.ns = false) (hp : ∀ row ∈ e.L, ∀ x ∈ row, ∃ v, x = RV.v v) (h : OwnE Y Z w e v fp) : OwnE Y' Z' w e v fp := by
  obtain ⟨cs, h1, h2, h3⟩ := (OwnE_flat hn).1 h
  exact (OwnE_flat hn).2 ⟨cs, h1, Rows_plain hp h2, h3⟩
end
/-! ### contracts -/
/-- The end of a call that was handed boxes and slices of the caller's. -/
def RetX (w : World) (X : Org) (Post : AV → Hp → Sp → Prop) : Ending → World → Prop := fun e w' =>
  ∃ u r H S E, e = .returned u ∧ Post r H S ∧ C E w' r u ∧ Sat w X E H S w' ∧ X.nb ≤ H.length
/-- THE CONTRACT OF A FUNCTION: handed boxes H0, slices S0 it answers r and leaves H, S. -/
def FnX (P : Program) (g : FuncId) (args : List AV) (H0 : Hp) (S0 : Sp) (Post : AV → Hp → Sp → Prop) : Prop :=
  ∀ (w : World) (Xp : Nat → Prop) (E : Env) (us : List Value), Sat w ⟨Xp, E.Z, E.Y, H0.length, fun i => E.B[i]?, 0, fun _ => none⟩ E H0 S0 w → CL E w args us →
    Calls P g (List.toArray us) w (RetX w ⟨Xp, E.Z, E.Y, H0.length, fun i => E.B[i]?, 0, fun _ => none⟩ Post)
/-- Of one that writes nothing that it was handed. -/
def FnR (P : Program) (g : FuncId) (args : List AV) (Post : AV → Sp → Prop) : Prop := FnX P g args [] [] (fun r H S => H = [] ∧ Post r S)
theorem FnX.mono {P : Program} {g : FuncId} {args : List AV} {H0 : Hp} {S0 : Sp} {Post Post' : AV → Hp → Sp → Prop} (h : FnX P g args H0 S0 Post) (hp : ∀ r H S, Post r H S → Post' r H S) : FnX P g args H0 S0 Post' :=
  fun w X E us hs hc => (h w X E us hs hc).mono fun _ _ ⟨u, r, H, S, E', h1, h2, h3, h4, h5⟩ => ⟨u, r, H, S, E', h1, hp r H S h2, h3, h4, h5⟩
theorem FnR.mono {P : Program} {g : FuncId} {args : List AV} {Post Post' : AV → Sp → Prop} (h : FnR P g args Post) (hp : ∀ r S, Post r S → Post' r S) : FnR P g args Post' :=
  FnX.mono h (fun r H S hh => ⟨hh.1, hp r S hh.2⟩)
def argsF : Nat → List AV → Fr
  | _, [] => []
  | n, x :: xs => (n, x) :: argsF (n + 1) xs
theorem argsF_get : ∀ {xs : List AV} {n d : Nat} {x : AV}, Fr.get (argsF n xs) d = some x → n ≤ d ∧ xs[d - n]? = some x
  | [], n, d, x, h => by simp [argsF, Fr.get] at h
  | y :: ys, n, d, x, h => by
    unfold argsF Fr.get at h
    cases hb : Nat.beq n d with
    | true =>
      rw [hb] at h
      have : n = d := Nat.eq_of_beq_eq_true hb
      subst this
      simp at h
      exact ⟨Nat.le_refl _, by simp [h]⟩
    | false =>
      rw [hb] at h
      obtain ⟨h1, h2⟩ := argsF_get h
      refine ⟨by omega, ?_⟩
      rw [show d - n = (d - (n + 1)) + 1 from by omega]
      simpa using h2
theorem fits_args {E : Env} {w : World} {xs : List AV} {us : List Value} {n : Nat} (h : CL E w xs us) : Fits E w (argsF 0 xs) { tmps := List.toArray us ++ Array.replicate n undef, defers := [] } := by
  refine ⟨fun d x hx => ?_⟩
  obtain ⟨_, h2⟩ := argsF_get hx
  simp at h2
  obtain ⟨u, h3, h4⟩ := CL_get h h2
  refine ⟨u, ?_, h4⟩
  have hl := (List.getElem?_eq_some_iff.1 h3).1
  rw [Array.getElem?_append_left (by simpa using hl)]
  simpa using h3
theorem fnX_introG (yl : Bool) {P : Program} {T : Tab} {g : FuncId} {fn : Func} {n : Nat} {code : Code} {args : List AV} {H0 : Hp} {S0 : Sp} {Post : AV → Hp → Sp → Prop} (hf : P.funcs[g]? = some fn) (hb : fn.body = some code) (hn : fn.ntmps = n) (hl : Nat.ble args.length n = true)
    (h : ∀ w X Z Y B, GI ⟨P, T, g, fn, n, w, ⟨X, Z, Y, H0.length, B, 0, fun _ => none⟩, RetX w ⟨X, Z, Y, H0.length, B, 0, fun _ => none⟩ Post, none, yl, []⟩ [.code code] (argsF 0 args) H0 S0) : FnX P g args H0 S0 Post := by
  intro w Xp E us hs hc
  refine calls_of_reach (c := ⟨P, T, g, fn, n, w, ⟨Xp, E.Z, E.Y, H0.length, fun i => E.B[i]?, 0, fun _ => none⟩, RetX w ⟨Xp, E.Z, E.Y, H0.length, fun i => E.B[i]?, 0, fun _ => none⟩ Post, none, yl, []⟩) rfl hf hb ?_
  have hul := CL_length hc
  have hl' := Nat.le_of_ble_eq_true hl
  refine h w Xp E.Z E.Y _ E _ w ?_ rfl ?_ hs
  · simp [hn, hul]; omega
  · exact fits_args hc
theorem fnX_intro {P : Program} {T : Tab} {g : FuncId} {fn : Func} {n : Nat} {code : Code} {args : List AV} {H0 : Hp} {S0 : Sp} {Post : AV → Hp → Sp → Prop} (hf : P.funcs[g]? = some fn) (hb : fn.body = some code) (hn : fn.ntmps = n) (hl : Nat.ble args.length n = true)
    (h : ∀ w X Z Y B, GI ⟨P, T, g, fn, n, w, ⟨X, Z, Y, H0.length, B, 0, fun _ => none⟩, RetX w ⟨X, Z, Y, H0.length, B, 0, fun _ => none⟩ Post, none, false, []⟩ [.code code] (argsF 0 args) H0 S0) : FnX P g args H0 S0 Post := fnX_introG false hf hb hn hl h
theorem fnR_intro {P : Program} {T : Tab} {g : FuncId} {fn : Func} {n : Nat} {code : Code} {args : List AV} {Post : AV → Sp → Prop} (hf : P.funcs[g]? = some fn) (hb : fn.body = some code) (hn : fn.ntmps = n) (hl : Nat.ble args.length n = true)
    (h : ∀ (w : World) (X : Org), GI ⟨P, T, g, fn, n, w, ⟨X.X, X.Z0, X.Y0, 0, X.B0, 0, fun _ => none⟩, RetX w ⟨X.X, X.Z0, X.Y0, 0, X.B0, 0, fun _ => none⟩ (fun r H S => H = [] ∧ Post r S), none, false, []⟩ [.code code] (argsF 0 args) [] []) : FnR P g args Post :=
  fnX_intro hf hb hn hl (fun w X Z Y B => h w ⟨X, Z, Y, 0, B, 0, fun _ => none⟩)
theorem fnX_args {P : Program} {g : FuncId} {args args' : List AV} {H0 : Hp} {S0 : Sp} {Post : AV → Hp → Sp → Prop} (h : FnX P g args H0 S0 Post) (hc : ∀ E w us, CL E w args' us → CL E w args us) : FnX P g args' H0 S0 Post :=
  fun w X E us hs hu => h w X E us hs (hc _ _ _ hu)
theorem C_nil_rs {E : Env} {w : World} {u : Value} {sz : Nat} (h : C E w (.r (.v (.slice none 0 0))) u) : C E w (.r (.rs sz [])) u := by
  unfold C CR at *
  exact ⟨none, 0, by simpa using h.1, Nat.le_refl _, Nat.zero_le _, .inl rfl⟩
end Go.Proofs.Ytmocggibcniggaa.Kw
namespace Go.Proofs.Ytmocggibcniggaa.Kw
open Go
def idxN (k : Nat) : List Nat → Option Nat
  | [] => none
  | x :: xs => match Nat.beq x k with
    | true => some 0
    | false => match idxN k xs with
      | some j => some (j + 1)
      | none => none
def notIn (k : Nat) : List Nat → Bool
  | [] => true
  | x :: xs => !Nat.beq x k && notIn k xs
def nodupN : List Nat → Bool
  | [] => true
  | x :: xs => notIn x xs && nodupN xs
theorem notIn_get : ∀ {ks : List Nat} {k j x : Nat}, notIn k ks = true → ks[j]? = some x → x ≠ k
  | [], k, j, x, _, hj => by simp at hj
  | y :: ys, k, j, x, h, hj => by
    unfold notIn at h
    rw [Bool.and_eq_true] at h
    cases j with
    | zero => simp at hj; subst hj; exact ne_of_nbeq h.1
    | succ j => simp at hj; exact notIn_get h.2 hj
theorem nodupN_get : ∀ {ks : List Nat} {i j x : Nat}, nodupN ks = true → ks[i]? = some x → ks[j]? = some x → i = j
  | [], i, j, x, _, hi, _ => by simp at hi
  | y :: ys, i, j, x, h, hi, hj => by
    unfold nodupN at h
    rw [Bool.and_eq_true] at h
    cases i with
    | zero => cases j with
      | zero => rfl
      | succ j => simp at hi hj; subst hi; exact absurd rfl (notIn_get h.1 hj)
    | succ i => cases j with
      | zero => simp at hi hj; subst hj; exact absurd rfl (notIn_get h.1 hi)
      | succ j => simp at hi hj; rw [nodupN_get h.2 hi hj]
theorem idxN_get : ∀ {ks : List Nat} {k j : Nat}, idxN k ks = some j → ks[j]? = some k
  | [], k, j, h => by simp [idxN] at h
  | x :: xs, k, j, h => by
    simp only [idxN] at h
    split at h
    · rename_i hb
      cases h
      simp [Nat.eq_of_beq_eq_true hb]
    · split at h
      · rename_i j' hj
        cases h
        simpa using idxN_get hj
      · cases h
theorem idxN_none : ∀ {ks : List Nat} {k j : Nat}, idxN k ks = none → ks[j]? ≠ some k
  | [], k, j, _ => by simp
  | x :: xs, k, j, h => by
    simp only [idxN] at h
    split at h
    · cases h
    · rename_i hb
      split at h
      · cases h
      · rename_i hn
        cases j with
        | zero => simp; rintro rfl; simp [Nat.beq_refl] at hb
        | succ j => simpa using idxN_none (j := j) hn
theorem idxN_of {ks : List Nat} {k j : Nat} (hn : nodupN ks = true) (h : ks[j]? = some k) : idxN k ks = some j := by
  cases hi : idxN k ks with
  | none => exact absurd h (idxN_none hi)
  | some i => rw [nodupN_get hn (idxN_get hi) h]
def selS (S : Sp) : List Nat → Option Sp
  | [] => some []
  | k :: ks => match S[k]?, selS S ks with
    | some (some e), some r => some (some e :: r)
    | _, _ => none
theorem selS_get : ∀ {ks : List Nat} {S S' : Sp}, selS S ks = some S' → S'.length = ks.length ∧ ∀ (j : Nat) (e : SE), S'[j]? = some (some e) → ∃ k, ks[j]? = some k ∧ S[k]? = some (some e)
  | [], S, S', h => by simp only [selS] at h; cases h; exact ⟨rfl, fun j e hj => by simp at hj⟩
  | k :: ks, S, S', h => by
    simp only [selS] at h
    split at h
    · rename_i e r he hr
      cases h
      obtain ⟨h1, h2⟩ := selS_get hr
      refine ⟨by simp [h1], fun j e' hj => ?_⟩
      cases j with
      | zero => simp at hj; subst hj; exact ⟨k, by simp, he⟩
      | succ j => simp at hj; obtain ⟨k', h3, h4⟩ := h2 j e' hj; exact ⟨k', by simpa using h3, h4⟩
    · cases h
/-! ### what is handed over -/
mutual
def giveA (hb ks : List Nat) (S : Sp) : AV → Option AV
  | .r x => some (.r x)
  | .sl k => match idxN k ks with
    | some j => some (.sl j)
    | none => match S[k]? with
      | some (some e) => match e.ns with
        | false => some (.r (.rs e.sz e.L))
        | true => none
      | _ => none
  | .box i o => match idxN i hb with
    | some j => some (.box j o)
    | none => none
  | .agg cs => match giveL hb ks S cs with
    | some ds => some (.agg ds)
    | none => none
  | .tup cs => match giveL hb ks S cs with
    | some ds => some (.tup ds)
    | none => none
  | .fn f cs => match giveL hb ks S cs with
    | some ds => some (.fn f ds)
    | none => none
  | _ => none
def giveL (hb ks : List Nat) (S : Sp) : List AV → Option (List AV)
  | [] => some []
  | x :: xs => match giveA hb ks S x, giveL hb ks S xs with
    | some y, some ys => some (y :: ys)
    | _, _ => none
end
def giveH (hb ks : List Nat) (S : Sp) (H : Hp) : List Nat → Option Hp
  | [] => some []
  | i :: is => match H[i]? with
    | some (some (t, cs)) => match giveL hb ks S cs, giveH hb ks S H is with
      | some ds, some r => some (some (t, ds) :: r)
      | _, _ => none
    | _ => none
theorem giveH_get {hb ks : List Nat} {S : Sp} {H : Hp} : ∀ {is : List Nat} {H0 : Hp}, giveH hb ks S H is = some H0 → H0.length = is.length ∧ (∀ (j : Nat) (i : Nat), is[j]? = some i → ∃ t cs, H[i]? = some (some (t, cs))) ∧ ∀ (j : Nat) (t : TypeId) (ds : List AV), H0[j]? = some (some (t, ds)) → ∃ i cs, is[j]? = some i ∧ H[i]? = some (some (t, cs)) ∧ giveL hb ks S cs = some ds
  | [], H0, h => by simp only [giveH] at h; cases h; exact ⟨rfl, fun j i hi => by simp at hi, fun j t ds hj => by simp at hj⟩
  | x :: is, H0, h => by
    simp only [giveH] at h
    split at h
    · rename_i t cs hx
      split at h
      · rename_i ds r hd hr
        cases h
        obtain ⟨h1, h2, h3⟩ := giveH_get hr
        refine ⟨by simp [h1], fun j i hi => ?_, fun j t' ds' hj => ?_⟩
        · cases j with
          | zero => simp at hi; subst hi; exact ⟨t, cs, hx⟩
          | succ j => simp at hi; exact h2 j i hi
        · cases j with
          | zero => simp at hj; obtain ⟨rfl, rfl⟩ := hj; exact ⟨x, cs, by simp, hx, hd⟩
          | succ j => simp at hj; obtain ⟨i, cs', k1, k2, k3⟩ := h3 j t' ds' hj; exact ⟨i, cs', by simpa using k1, k2, k3⟩
      · cases h
    · cases h
/-- The environment of a callee. -/
def ownG (E : Env) (hb ks : List Nat) (b : Nat) : Option (Nat ⊕ Nat) := match E.O b with
  | some (.inl i) => match idxN i hb with
    | some j => some (.inl j)
    | none => none
  | some (.inr k) => match idxN k ks with
    | some j => some (.inr j)
    | none => none
  | none => none
theorem ownG_some {E : Env} {hb ks : List Nat} {b : Nat} (h : ownG E hb ks b ≠ none) : E.O b ≠ none := by
  intro e
  unfold ownG at h
  rw [e] at h
  exact h rfl
abbrev Env.give (E : Env) (w : World) (hb ks : List Nat) : Env :=
  ⟨hb.map fun i => (E.B[i]?).getD 0, ks.map fun k => (E.V[k]?).getD undef, ks.map fun k => (E.P[k]?).getD [], ownG E hb ks, E.Y, fun b => b < w.heap.size ∧ ownG E hb ks b = none⟩
section
variable {w0 w : World} {X : Org} {E : Env} {H H0 : Hp} {S S0 : Sp} {hb ks : List Nat}
theorem give_Z (h : Sat w0 X E H S w) : ∀ b, E.Z b → b < w.heap.size ∧ ownG E hb ks b = none := fun b hz => by
  refine ⟨h.Z b hz, ?_⟩
  unfold ownG
  cases ho : E.O b with
  | none => rfl
  | some x => exact absurd hz (h.own b x ho).2.2
theorem map_get {α : Type} {l : List Nat} {f : Nat → α} {j : Nat} {y : α} (h : (l.map f)[j]? = some y) : ∃ i, l[j]? = some i ∧ f i = y := by
  rw [List.getElem?_map] at h
  cases hj : l[j]? with
  | none => rw [hj] at h; cases h
  | some i => rw [hj] at h; exact ⟨i, rfl, by simpa using h⟩
mutual
theorem give_ok (h : Sat w0 X E H S w) : ∀ (x y : AV) (u : Value), giveA hb ks S x = some y → C E w x u → C (E.give w hb ks) w y u
  | .r x, y, u, hg, hx => by
    simp only [giveA] at hg; cases hg
    unfold C at hx ⊢
    exact CR_mono (fun _ h => h) (give_Z h) h.YZ (fun _ _ => rfl) x u hx
  | .sl k, y, u, hg, hx => by
    simp only [giveA] at hg
    unfold C at hx
    split at hg
    · rename_i j hj
      cases hg
      unfold C
      refine ⟨?_, hx.2⟩
      show (ks.map fun k => (E.V[k]?).getD undef)[j]? = some u
      rw [List.getElem?_map, idxN_get hj]
      simp [hx.1]
    · rename_i hj
      split at hg
      · rename_i e he
        split at hg
        · rename_i hn
          cases hg
          obtain ⟨v, fp, h1, h2, h3⟩ := h.sl k e he
          rw [h1] at hx
          obtain ⟨hx, _⟩ := hx
          cases hx
          obtain ⟨cs, k1, k2, rfl⟩ := (OwnE_flat hn).1 h3
          unfold C CR
          rcases own_cells k1 with ⟨rfl, h5⟩ | ⟨b, cap, rfl, h5, h6, h7, h8⟩
          · exact ⟨none, 0, by rw [h5], by omega, by simp [maxLen], .inl (List.eq_nil_of_length_eq_zero h5)⟩
          · refine ⟨_, cap, rfl, h5, h6, .inr ⟨b, 0, rfl, ⟨h7, ?_⟩, Rows_CRows (Rows_mono (fun _ h => h) (give_Z h) h.YZ (fun _ _ => rfl) k2) (fun j u hu => by rw [Nat.zero_add]; exact h8 j u hu)⟩⟩
            have := h.oP k e _ b he h2 (by simp [Value.ownBlock])
            unfold ownG
            rw [this]
            simp only [hj]
        · cases hg
      · cases hg
  | .box i o, y, u, hg, hx => by
    simp only [giveA] at hg
    split at hg
    · rename_i j hj
      cases hg
      unfold C at hx ⊢
      obtain ⟨b, h1, h2⟩ := hx
      refine ⟨b, ?_, h2⟩
      show (hb.map fun i => (E.B[i]?).getD 0)[j]? = some b
      rw [List.getElem?_map, idxN_get hj]
      simp [h1]
    · cases hg
  | .agg cs, y, u, hg, hx => by
    simp only [giveA] at hg
    split at hg
    · rename_i ds hd
      cases hg
      unfold C at hx ⊢
      obtain ⟨us, h1, h2, h3⟩ := hx
      exact ⟨us, h1, giveL_ok h cs ds us hd h2, h3⟩
    · cases hg
  | .tup cs, y, u, hg, hx => by
    simp only [giveA] at hg
    split at hg
    · rename_i ds hd
      cases hg
      unfold C at hx ⊢
      obtain ⟨us, h1, h2⟩ := hx
      exact ⟨us, h1, giveL_ok h cs ds us hd h2⟩
    · cases hg
  | .fn f cs, y, u, hg, hx => by
    simp only [giveA] at hg
    split at hg
    · rename_i ds hd
      cases hg
      unfold C at hx ⊢
      obtain ⟨us, h1, h2⟩ := hx
      exact ⟨us, h1, giveL_ok h cs ds us hd h2⟩
    · cases hg
  | .el _ _ _ _, y, u, hg, hx => by simp [giveA] at hg
  | .ss _ _ _ _, y, u, hg, hx => by simp [giveA] at hg
  | .cap _, y, u, hg, hx => by simp [giveA] at hg
  | .capLe _ _, y, u, hg, hx => by simp [giveA] at hg
  | .capGt _ _, y, u, hg, hx => by simp [giveA] at hg
  | .junk, y, u, hg, hx => by simp [giveA] at hg
theorem giveL_ok (h : Sat w0 X E H S w) : ∀ (xs ys : List AV) (us : List Value), giveL hb ks S xs = some ys → CL E w xs us → CL (E.give w hb ks) w ys us
  | [], ys, us, hg, hx => by simp only [giveL] at hg; cases hg; unfold CL at hx ⊢; exact hx
  | x :: xs, ys, us, hg, hx => by
    simp only [giveL] at hg
    cases h1 : giveA hb ks S x with
    | none => simp [h1] at hg
    | some y =>
      cases h2 : giveL hb ks S xs with
      | none => simp [h1, h2] at hg
      | some ys' =>
        simp only [h1, h2, Option.some.injEq] at hg
        subst hg
        unfold CL at hx ⊢
        obtain ⟨u, r, k1, k2, k3⟩ := hx
        exact ⟨u, r, k1, give_ok h x y u h1 k2, giveL_ok h xs ys' r h2 k3⟩
end
/-- What the callee begins with. -/
theorem Sat.give (h : Sat w0 X E H S w) (hnb : nodupN hb = true) (hnk : nodupN ks = true) (hH : giveH hb ks S H hb = some H0) (hS : selS S ks = some S0) :
    Sat w ⟨fun b => ownG E hb ks b ≠ none, (E.give w hb ks).Z, (E.give w hb ks).Y, H0.length, fun i => (E.give w hb ks).B[i]?, 0, fun _ => none⟩ (E.give w hb ks) H0 S0 w := by
  obtain ⟨lH, aH, gH⟩ := giveH_get hH
  obtain ⟨lS, gS⟩ := selS_get hS
  have Bat : ∀ (j b : Nat), (E.give w hb ks).B[j]? = some b → ∃ i, hb[j]? = some i ∧ E.B[i]? = some b := by
    intro j b hj
    obtain ⟨i, h1, h2⟩ := map_get hj
    obtain ⟨t, cs, h3⟩ := aH j i h1
    obtain ⟨b', us, h4, _⟩ := h.box i t cs h3
    rw [h4] at h2
    simp at h2
    subst h2
    exact ⟨i, h1, h4⟩
  have Pat : ∀ (j : Nat) (e : SE) (fp : List Nat), S0[j]? = some (some e) → (E.give w hb ks).P[j]? = some fp → ∃ k, ks[j]? = some k ∧ S[k]? = some (some e) ∧ E.P[k]? = some fp := by
    intro j e fp hj hp
    obtain ⟨k, h1, h2⟩ := gS j e hj
    obtain ⟨k', h3, h4⟩ := map_get hp
    rw [h1] at h3
    cases h3
    obtain ⟨v, fp', _, h5, _⟩ := h.sl k e h2
    rw [h5] at h4
    simp at h4
    subst h4
    exact ⟨k, h1, h2, h5⟩
  refine ⟨by simp [lH], by simp [lS], by simp [lS], ?_, ?_, ?_, ?_, ?_, ?_, fun b hb' => give_Z h b (h.YZ b hb'), fun b hb' => hb'.1, fun _ _ _ => rfl, Nat.le_refl _, rfl, rfl, rfl, Nat.le_refl _, fun b hb' => .inl hb', fun b hb' => hb', fun b hb' => .inl hb', fun b hb' => hb', fun i b _ hb' => hb', fun k v hk _ => absurd hk (Nat.not_lt_zero _)⟩
  · intro j t ds hj
    obtain ⟨i, cs, h1, h2, h3⟩ := gH j t ds hj
    obtain ⟨b, us, k1, k2, k3, k4⟩ := h.box i t cs h2
    refine ⟨b, us, ?_, k2, giveL_ok h cs ds us h3 k3, k4⟩
    show (hb.map fun i => (E.B[i]?).getD 0)[j]? = some b
    rw [List.getElem?_map, h1]
    simp [k1]
  · intro j e hj
    obtain ⟨k, h1, h2⟩ := gS j e hj
    obtain ⟨v, fp, k1, k2, k3⟩ := h.sl k e h2
    refine ⟨v, fp, ?_, ?_, OwnE_mono (fun _ h => h) (give_Z h) h.YZ (fun _ _ => rfl) (fun _ _ => rfl) k3⟩
    · show (ks.map fun k => (E.V[k]?).getD undef)[j]? = some v
      rw [List.getElem?_map, h1]; simp [k1]
    · show (ks.map fun k => (E.P[k]?).getD [])[j]? = some fp
      rw [List.getElem?_map, h1]; simp [k2]
  · intro j b hj
    obtain ⟨i, h1, h2⟩ := Bat j b hj
    show ownG E hb ks b = _
    unfold ownG
    rw [h.oB i b h2]
    simp only [idxN_of hnb h1]
  · intro j e fp b hj hp hb'
    obtain ⟨k, h1, h2, h3⟩ := Pat j e fp hj hp
    show ownG E hb ks b = _
    unfold ownG
    rw [h.oP k e fp b h2 h3 hb']
    simp only [idxN_of hnk h1]
  · intro j e fp hj hp
    obtain ⟨k, h1, h2, h3⟩ := Pat j e fp hj hp
    exact h.PN k e fp h2 h3
  · intro b x hx
    have hx' : ownG E hb ks b = some x := hx
    have hne : ownG E hb ks b ≠ none := by rw [hx']; simp
    obtain ⟨y, hy⟩ := Option.ne_none_iff_exists'.1 (ownG_some hne)
    exact ⟨(h.own b y hy).1, .inr hne, fun hz => hne hz.2⟩
end
end Go.Proofs.Ytmocggibcniggaa.Kw
namespace Go.Proofs.Ytmocggibcniggaa.Kw
open Go
/-- The callee's boxes come back. -/
def putH : List Nat → Hp → Hp → Hp
  | i :: is, x :: xs, H => putH is xs (H.set i x)
  | _, _, H => H
def clrS : List Nat → Sp → Sp
  | [], S => S
  | k :: ks, S => clrS ks (S.set k none)
theorem putH_length : ∀ (is : List Nat) (xs H : Hp), (putH is xs H).length = H.length
  | [], xs, H => by unfold putH; rfl
  | i :: is, [], H => by unfold putH; rfl
  | i :: is, x :: xs, H => by unfold putH; rw [putH_length is xs]; simp
theorem clrS_length : ∀ (ks : List Nat) (S : Sp), (clrS ks S).length = S.length
  | [], S => rfl
  | k :: ks, S => by unfold clrS; rw [clrS_length ks]; simp
theorem putH_other : ∀ {is : List Nat} {xs H : Hp} {i : Nat}, (∀ (j : Nat), is[j]? ≠ some i) → (putH is xs H)[i]? = H[i]?
  | [], xs, H, i, _ => by unfold putH; rfl
  | k :: is, [], H, i, _ => by unfold putH; rfl
  | k :: is, x :: xs, H, i, h => by
    unfold putH
    rw [putH_other (fun j => by simpa using h (j + 1)), List.getElem?_set_ne (by simpa using h 0)]
theorem putH_at : ∀ {is : List Nat} {xs H : Hp} {i j : Nat}, nodupN is = true → is[j]? = some i → i < H.length → j < xs.length → (putH is xs H)[i]? = xs[j]?
  | [], xs, H, i, j, _, hj, _, _ => by simp at hj
  | k :: is, [], H, i, j, _, _, _, hl => by simp at hl
  | k :: is, x :: xs, H, i, j, hn, hj, hi, hl => by
    unfold nodupN at hn
    rw [Bool.and_eq_true] at hn
    unfold putH
    cases j with
    | zero =>
      simp at hj
      subst hj
      rw [putH_other (fun j e => absurd rfl (notIn_get hn.1 e))]
      simp [hi]
    | succ j =>
      simp at hj
      rw [putH_at hn.2 hj (by simpa using hi) (by simpa using hl)]
      simp
theorem clrS_get : ∀ {ks : List Nat} {S : Sp} {l : Nat} {e : SE}, (clrS ks S)[l]? = some (some e) → (∀ (j : Nat), ks[j]? ≠ some l) ∧ S[l]? = some (some e)
  | [], S, l, e, h => ⟨fun j => by simp, h⟩
  | k :: ks, S, l, e, h => by
    unfold clrS at h
    obtain ⟨h1, h2⟩ := clrS_get h
    rcases get_set h2 with ⟨_, h3, _⟩ | ⟨hne, h3⟩
    · cases h3
    · refine ⟨fun j => ?_, h3⟩
      cases j with
      | zero => simpa using hne
      | succ j => simpa using h1 j
def mvO (m : Mv) : Nat ⊕ Nat → Nat ⊕ Nat
  | .inl j => .inl (m.bx j)
  | .inr k => .inr (m.nS + k)
/-- The caller's environment behind a call. -/
abbrev Env.back (E E1 : Env) (hb ks : List Nat) (m : Mv) (Yn : Nat → Prop) : Env :=
  ⟨E.B ++ E1.B.drop hb.length, E.V ++ E1.V, E.P ++ E1.P, fun b => match E1.O b with
    | some x => some (mvO m x)
    | none => match ownG E hb ks b with
      | some _ => none
      | none => E.O b, fun b => E.Y b ∨ Yn b, fun b => E.Z b ∨ Yn b⟩
section
variable {w0 w w' : World} {X : Org} {E E1 : Env} {H H0 H1 : Hp} {S S0 S1 : Sp} {hb ks : List Nat} {m : Mv} {Yn : Nat → Prop}
theorem back_le : E.le (E.back E1 hb ks m Yn) := ⟨fun i b h => get_left h, fun i b h => get_left h, fun _ h => .inl h, fun _ h => .inl h⟩
theorem split_get {α : Type} {l m : List α} {i : Nat} {x : α} (h : (l ++ m)[i]? = some x) : l[i]? = some x ∨ ∃ j, i = l.length + j ∧ m[j]? = some x := by
  rcases Nat.lt_or_ge i l.length with hl | hl
  · exact .inl (by rwa [List.getElem?_append_left hl] at h)
  · obtain ⟨j, rfl⟩ := Nat.exists_eq_add_of_le hl
    exact .inr ⟨j, rfl, by rwa [get_app] at h⟩
/-- WHAT A CALL HAS MADE JOINS WHAT WAS. -/
theorem Sat.join (h : Sat w0 X E H S w) (hnb : nodupN hb = true) (hnk : nodupN ks = true) (hH : giveH hb ks S H hb = some H0) (hS : selS S ks = some S0) (hm : m = ⟨hb, H.length, S.length⟩)
    (h1 : Sat w ⟨fun b => ownG E hb ks b ≠ none, (E.give w hb ks).Z, (E.give w hb ks).Y, H0.length, fun i => (E.give w hb ks).B[i]?, 0, fun _ => none⟩ E1 H1 S1 w') (hl : H0.length ≤ H1.length) (hYn : ∀ b, Yn b → E1.Y b)
    (hbox : ∀ (j : Nat) (t : TypeId) (cs : List AV) (us : List Value), H1[j]? = some (some (t, cs)) → CL E1 w' cs us → CL (E.back E1 hb ks m Yn) w' (mvL m cs) us)
    (hsl : ∀ (k : Nat) (e : SE) (v : Value) (fp : List Nat), S1[k]? = some (some e) → OwnE E1.Y E1.Z w' e v fp → OwnE (E.back E1 hb ks m Yn).Y (E.back E1 hb ks m Yn).Z w' e v fp) :
    Sat w0 X (E.back E1 hb ks m Yn) (putH hb (mvH m (H1.take hb.length)) H ++ mvH m (H1.drop hb.length)) (clrS ks S ++ S1) w' ∧ (∀ b, E.Z b → w'.heap[b]? = w.heap[b]?) ∧
      (∀ (i b : Nat), E1.B[i]? = some b → (E.back E1 hb ks m Yn).B[m.bx i]? = some b) ∧ (∀ (k : Nat) (v : Value), E1.V[k]? = some v → (E.back E1 hb ks m Yn).V[m.nS + k]? = some v) := by
  obtain ⟨lH, aH, gH⟩ := giveH_get hH
  obtain ⟨lS, gS⟩ := selS_get hS
  have hc : Chg w w' (fun b => ownG E hb ks b ≠ none) := ⟨h1.size, fun b hb' hn => h1.old b hb' hn, h1.os, h1.tape, h1.output, h1.dr⟩
  have hD : ∀ b, ownG E hb ks b ≠ none → E.O b ≠ none := fun b hb' => ownG_some hb'
  have hz := h.zkeep hc hD
  have hmb : m.hb = hb := by rw [hm]
  have hmH : m.nH = H.length := by rw [hm]
  have hmS : m.nS = S.length := by rw [hm]
  -- a passed box is where it was
  have Bold : ∀ (j i b : Nat), hb[j]? = some i → E1.B[j]? = some b → E.B[i]? = some b := by
    intro j i b hj hb'
    obtain ⟨t, cs, h3⟩ := aH j i hj
    obtain ⟨b', us, h4, _⟩ := h.box i t cs h3
    have hjl : j < H0.length := by rw [lH]; exact (List.getElem?_eq_some_iff.1 hj).1
    have := h1.bup j b' hjl (by
      show (hb.map fun i => (E.B[i]?).getD 0)[j]? = some b'
      rw [List.getElem?_map, hj]; simp [h4])
    rw [hb'] at this
    cases this
    exact h4
  have lB1 := h1.lB
  have hbx : ∀ (i b : Nat), E1.B[i]? = some b → (E.back E1 hb ks m Yn).B[m.bx i]? = some b := by
    intro i b hi
    unfold Mv.bx
    rw [hmb, getN_eq]
    cases hg : hb[i]? with
    | some k =>
      exact get_left (Bold i k b hg hi)
    | none =>
      have hge : hb.length ≤ i := by
        rcases Nat.lt_or_ge i hb.length with hlt | hge
        · rw [List.getElem?_eq_getElem hlt] at hg; cases hg
        · exact hge
      show (E.B ++ E1.B.drop hb.length)[m.nH + (i - hb.length)]? = some b
      rw [hmH, ← h.lB, get_app, List.getElem?_drop, show hb.length + (i - hb.length) = i by omega]
      exact hi
  have hvx : ∀ (k : Nat) (v : Value), E1.V[k]? = some v → (E.back E1 hb ks m Yn).V[m.nS + k]? = some v := by
    intro k v hk
    show (E.V ++ E1.V)[m.nS + k]? = some v
    rw [hmS, ← h.lV, get_app]
    exact hk
  -- who owns what of the old
  have oldnone : ∀ b x, E.O b = some x → ownG E hb ks b = none → E1.O b = none := by
    intro b x hb' hn
    cases he : E1.O b with
    | none => rfl
    | some y =>
      obtain ⟨_, k2, _⟩ := h1.own b y he
      rcases k2 with k2 | k2
      · exact absurd (h.own b x hb').1 (by omega)
      · exact absurd hn k2
  have yn : ∀ b, Yn b → E.Y b ∨ w.heap.size ≤ b ∨ ownG E hb ks b ≠ none := fun b hb' => by
    rcases h1.yin b (hYn b hb') with k | k | k
    · exact .inl k
    · exact .inr (.inl k)
    · exact .inr (.inr k)
  refine ⟨?_, hz, hbx, hvx⟩
  refine h.step hc hD ?_ (fun _ h => .inl h) (fun _ h => .inl h) ?_ ?_ ?_ ?_ ?_ ?_ ?_ ?_ ?_ ?_ (fun i b h => get_left h) ?_ (fun _ _ _ h => get_left h)
  · intro b hb'
    rcases hb' with hb' | hb'
    · exact .inl (h.YZ b hb')
    · exact .inr hb'
  · intro b hb'
    rcases hb' with hb' | hb'
    · exact .inl hb'
    · rcases yn b hb' with k | k | k
      · exact .inl k
      · exact .inr (.inl (Nat.le_trans h.size k))
      · obtain ⟨x, hx⟩ := Option.ne_none_iff_exists'.1 (hD b k)
        exact .inr (h.own b x hx).2.1
  · intro b hb'
    rcases hb' with hb' | hb'
    · exact .inl hb'
    · have hlt := h1.Z b (h1.YZ b (hYn b hb'))
      rcases yn b hb' with k | k | k
      · exact .inl (h.YZ b k)
      · exact .inr ⟨.inl (Nat.le_trans h.size k), hlt⟩
      · obtain ⟨x, hx⟩ := Option.ne_none_iff_exists'.1 (hD b k)
        exact .inr ⟨(h.own b x hx).2.1, hlt⟩
  · show (E.B ++ E1.B.drop hb.length).length = _
    rw [List.length_append, List.length_append, putH_length, mvH_length, List.length_drop, List.length_drop, h.lB, lB1]
  · show (E.V ++ E1.V).length = _
    rw [List.length_append, List.length_append, clrS_length, h.lV, h1.lV]
  · show (E.P ++ E1.P).length = _
    rw [List.length_append, List.length_append, clrS_length, h.lP, h1.lP]
  · -- boxes
    intro i t ds hi
    rcases split_get hi with hi | ⟨j, rfl, hj⟩
    · by_cases hex : ∃ (j : Nat), hb[j]? = some i
      · obtain ⟨j, hj⟩ := hex
        have hil : i < H.length := by rw [← putH_length hb (mvH m (H1.take hb.length)) H]; exact (List.getElem?_eq_some_iff.1 hi).1
        have hjl : j < hb.length := (List.getElem?_eq_some_iff.1 hj).1
        rw [putH_at hnb hj hil (by rw [mvH_length, List.length_take]; omega)] at hi
        obtain ⟨cs, hcs, rfl⟩ := mvH_get hi
        rw [List.getElem?_take, if_pos hjl] at hcs
        obtain ⟨b, us, k1, k2, k3, k4⟩ := h1.box j t cs hcs
        exact ⟨b, us, get_left (Bold j i b hj k1), k2, hbox j t cs us hcs k3, k4⟩
      · have hex' : ∀ (j : Nat), hb[j]? ≠ some i := fun j hj => hex ⟨j, hj⟩
        rw [putH_other hex'] at hi
        refine h.box_stays hc hD (fun _ _ k => C_ext h.YZ back_le k) hi (fun b hb' hd => hd ?_) ?_
        · unfold ownG
          rw [h.oB i b hb']
          cases hx : idxN i hb with
          | none => simp only [hx]
          | some j => exact absurd (idxN_get hx) (hex' j)
        · have : i < E.B.length := by rw [h.lB]; exact (List.getElem?_eq_some_iff.1 hi).1
          exact List.getElem?_append_left this
    · rw [putH_length]
      obtain ⟨cs, hcs, rfl⟩ := mvH_get hj
      rw [List.getElem?_drop] at hcs
      obtain ⟨b, us, k1, k2, k3, k4⟩ := h1.box _ t cs hcs
      refine ⟨b, us, ?_, k2, hbox _ t cs us hcs k3, k4⟩
      show (E.B ++ E1.B.drop hb.length)[H.length + j]? = some b
      rw [← h.lB, get_app, List.getElem?_drop]
      exact k1
  · -- slices
    intro k e hk
    rcases split_get hk with hk | ⟨j, rfl, hj⟩
    · obtain ⟨hn, hk'⟩ := clrS_get hk
      obtain ⟨v, fp, k1, k2, k3⟩ := h.sl_stays hc hD (Y := (E.back E1 hb ks m Yn).Y) (Z := (E.back E1 hb ks m Yn).Z) (fun _ h => .inl h) (fun _ h => .inl h) hk' (fun b fp hp hb' hd => hd (by
        unfold ownG
        rw [h.oP k e fp b hk' hp hb']
        cases hx : idxN k ks with
        | none => simp only [hx]
        | some j => exact absurd (idxN_get hx) (hn j)))
      exact ⟨v, fp, get_left k1, get_left k2, k3⟩
    · rw [clrS_length]
      obtain ⟨v, fp, k1, k2, k3⟩ := h1.sl j e hj
      refine ⟨v, fp, ?_, ?_, hsl j e v fp hj k3⟩
      · show (E.V ++ E1.V)[S.length + j]? = some v
        rw [← h.lV, get_app]; exact k1
      · show (E.P ++ E1.P)[S.length + j]? = some fp
        rw [← h.lP, get_app]; exact k2
  · -- owners of boxes
    intro i b hi
    show (match E1.O b with | some x => some (mvO m x) | none => match ownG E hb ks b with | some _ => none | none => E.O b) = _
    rcases split_get hi with hi | ⟨j, rfl, hj⟩
    · have ho := h.oB i b hi
      cases hx : idxN i hb with
      | none =>
        have hg : ownG E hb ks b = none := by unfold ownG; rw [ho]; simp only [hx]
        rw [oldnone b _ ho hg, hg]
        exact ho
      | some j =>
        have hj := idxN_get hx
        have hjl : j < H1.length := by have := (List.getElem?_eq_some_iff.1 hj).1; omega
        obtain ⟨b', hb'⟩ : ∃ b', E1.B[j]? = some b' := ⟨_, List.getElem?_eq_getElem (by rw [lB1]; exact hjl)⟩
        have := Bold j i b' hj hb'
        rw [hi] at this
        cases this
        rw [h1.oB j b hb']
        show some (Sum.inl (m.bx j)) = _
        unfold Mv.bx
        rw [hmb, getN_eq, hj]
    · rw [List.getElem?_drop] at hj
      rw [h1.oB _ b hj]
      show some (Sum.inl (m.bx (hb.length + j))) = _
      unfold Mv.bx
      rw [hmb, getN_eq, List.getElem?_eq_none (by omega), hmH, h.lB]
      simp
  · -- owners of slices
    intro k e fp b hk hp hbf
    show (match E1.O b with | some x => some (mvO m x) | none => match ownG E hb ks b with | some _ => none | none => E.O b) = _
    rcases split_get hk with hk | ⟨j, rfl, hj⟩
    · obtain ⟨hn, hk'⟩ := clrS_get hk
      have hkl : k < E.P.length := by rw [h.lP]; exact (List.getElem?_eq_some_iff.1 hk').1
      have hp' : E.P[k]? = some fp := by
        have : (E.P ++ E1.P)[k]? = some fp := hp
        rwa [List.getElem?_append_left hkl] at this
      have ho := h.oP k e fp b hk' hp' hbf
      have hg : ownG E hb ks b = none := by
        unfold ownG
        rw [ho]
        cases hx : idxN k ks with
        | none => simp only [hx]
        | some j => exact absurd (idxN_get hx) (hn j)
      rw [oldnone b _ ho hg, hg]
      exact ho
    · have hp' : E1.P[j]? = some fp := by
        have : (E.P ++ E1.P)[(clrS ks S).length + j]? = some fp := hp
        rw [clrS_length, ← h.lP, get_app] at this
        exact this
      rw [h1.oP j e fp b hj hp' hbf]
      show some (Sum.inr (m.nS + j)) = _
      rw [hmS, clrS_length]
  · -- no block twice
    intro k e fp hk hp
    rcases split_get hk with hk | ⟨j, rfl, hj⟩
    · obtain ⟨hn, hk'⟩ := clrS_get hk
      have hkl : k < E.P.length := by rw [h.lP]; exact (List.getElem?_eq_some_iff.1 hk').1
      have hp' : E.P[k]? = some fp := by
        have : (E.P ++ E1.P)[k]? = some fp := hp
        rwa [List.getElem?_append_left hkl] at this
      exact h.PN k e fp hk' hp'
    · have hp' : E1.P[j]? = some fp := by
        have : (E.P ++ E1.P)[(clrS ks S).length + j]? = some fp := hp
        rw [clrS_length, ← h.lP, get_app] at this
        exact this
      exact h1.PN j e fp hj hp'
  · intro b x hb'
    have hb2 : (match E1.O b with | some x => some (mvO m x) | none => match ownG E hb ks b with | some _ => none | none => E.O b) = some x := hb'
    cases he : E1.O b with
    | some y =>
      obtain ⟨k1, k2, k3⟩ := h1.own b y he
      refine ⟨?_, ?_⟩
      · rcases k2 with k2 | k2
        · exact .inr ⟨k2, k1⟩
        · exact .inl (hD b k2)
      · intro hzz
        rcases hzz with hzz | hzz
        · exact hzz
        · exact absurd (h1.YZ b (hYn b hzz)) k3
    | none =>
      rw [he] at hb2
      cases hg : ownG E hb ks b with
      | some y => rw [hg] at hb2; cases hb2
      | none =>
        rw [hg] at hb2
        have hb3 : E.O b = some x := hb2
        refine ⟨.inl (by rw [hb3]; simp), ?_⟩
        intro hzz
        rcases hzz with hzz | hzz
        · exact hzz
        · rcases yn b hzz with k | k | k
          · exact h.YZ b k
          · exact absurd (h.own b x hb3).1 (by omega)
          · exact absurd hg k
end
end Go.Proofs.Ytmocggibcniggaa.Kw
namespace Go.Proofs.Ytmocggibcniggaa.Kw
open Go
/-- Which function a call calls, with what: a named one; a closure. -/
def target (F : Fr) (cl : Call) : Option (FuncId × List AV) := match cl.callee with
  | .value f => match ev F f with
    | some (.fn g cap) => match evs F cl.args.toList with
      | some xs => some (g, xs ++ cap)
      | none => none
    | _ => none
  | _ => none
theorem run_call {P : Program} {w : World} {E : Env} {F : Fr} {a : Act} {o : Oper} {cl : Call} (hop : o.op = .call cl) (h3 : Fits E w F a) {g : FuncId} {xs : List AV} (ht : target F cl = some (g, xs)) {fn : Func} (hf : P.funcs[g]? = some fn) (hnm : (fn.name == "runtime.NumGoroutine") = false) (hb : fn.body.isSome = true) :
    ∃ us, CL E w xs us ∧ (execOp a.eval o).run P w = .ok (.enter g (List.toArray us)) w := by
  unfold target at ht
  split at ht
  · rename_i f hcal
    split at ht
    · rename_i g' cap hev
      split at ht
      · rename_i ys hys
        cases ht
        have h1 := h3.ev hev
        have h2 := h3.evs hys
        unfold C at h1
        obtain ⟨us, hu, hcap⟩ := h1
        refine ⟨cl.args.toList.map a.eval ++ us, CL_append h2 hcap, ?_⟩
        have h4 : fn.name ≠ "runtime.NumGoroutine" := by simpa using hnm
        obtain ⟨c', hc'⟩ := Option.isSome_iff_exists.1 hb
        have he : (callFunc g (cl.args.map a.eval ++ List.toArray us)).run P w = .ok (.enter g (cl.args.map a.eval ++ List.toArray us)) w := by
          simp [callFunc, hf, h4, hc']
        have e2 : List.toArray (cl.args.toList.map a.eval ++ us) = cl.args.map a.eval ++ List.toArray us := by
          rw [← List.append_toArray]
          congr 1
          cases cl.args
          simp
        rw [e2]
        unfold execOp
        simp only [hop, resolve, hcal, hu, Deferred.ofValue, pure_bind, invoke, Array.empty_append]
        exact he
      · cases ht
    · cases ht
  · cases ht

def viewL (S : Sp) (xs : List AV) : Option (List AV) := giveL [] [] S xs
section
variable {c : Ctx} {ops : Array Oper} {k : List Item} {kz : Kz} {q st : Option St} {i : Nat} {m : Md} {sch : List (Nat × Md)} {F : Fr} {H : Hp} {S : Sp} {o : Oper} {d : Nat} {r : AV} {E E' : Env} {a : Act} {w w' : World} {P : Program} {w0 : World} {X : Org}
/-- A CALL by a contract; the answer is plain. -/
theorem r_call {cl : Call} {g : FuncId} {xs ys : List AV} {fn : Func} {Post : AV → Sp → Prop} (spec : FnR c.P g ys Post) (hi : ops[i]? = some o) (hop : o.op = .call cl) (hd : o.dst = some d) (hn : Nat.blt d c.n = true) (hg : gOk ops F o.guard = some true) (hm : oOk m st = true) (hst : stLe st H.length S.length = true)
    (ht : target F cl = some (g, xs)) (hf : c.P.funcs[g]? = some fn) (hnm : (fn.name == "runtime.NumGoroutine") = false) (hb : fn.body.isSome = true) (hv : viewL S xs = some ys) (hp : ∀ r S1, Post r S1 → plainA r = true ∧ PlainS S1)
    (h : ∀ r S1, Post r S1 → GR c ops kz q st sch ((d, shA S.length r) :: F) H (S ++ S1)) : GR c ops kz q st ((i, m) :: sch) F H S := by
  intro E a w h1 h2 h3 h4 h5
  obtain ⟨us, k1, k2⟩ := run_call (P := c.P) hop h3 ht hf hnm hb
  have hsat0 := h4.give (hb := []) (ks := []) rfl rfl rfl rfl
  refine seq_call hi (gOk_ok (o := o) h3 hg) k2 ((spec w _ _ us hsat0 (giveL_ok h4 xs ys us hv k1)).mono fun e w' hh => ?_) ?_
  · obtain ⟨u, r, H1, S1, E1, rfl, ⟨rfl, hpost⟩, hc, hsat, hnb⟩ := hh
    obtain ⟨hpl, hps⟩ := hp r S1 hpost
    obtain ⟨hj, hz, hbx, hvx⟩ := h4.join (m := ⟨[], H.length, S.length⟩) (Yn := fun _ => False) rfl rfl rfl rfl rfl hsat hnb (fun _ h => h.elim) (fun j t cs us hj => by simp at hj)
      (fun k e v fp hk ho => by obtain ⟨p1, p2⟩ := hps _ (List.mem_of_getElem? hk) e rfl; exact OwnE_plain p1 p2 ho)
    have hj' : Sat c.w0 c.X (E.back E1 [] [] ⟨[], H.length, S.length⟩ fun _ => False) H (S ++ S1) w' := by
      simpa [putH, mvH, clrS] using hj
    have h5' : ∀ s, st = some s → q = some s ∧ Inv s (E.back E1 [] [] ⟨[], H.length, S.length⟩ fun _ => False) w' := fun s hs => by
      have hnone : ∀ b, ownG E [] [] b = none := fun b => by
        unfold ownG
        cases E.O b with
        | none => rfl
        | some x => cases x <;> rfl
      refine ⟨(h5 s hs).1, (h5 s hs).2.grow hsat.size (fun b hb => hsat.old b hb (fun hx => hx (hnone b))) (fun i b hi hb' => ?_) (fun i e fp hi hv => ?_) (fun b hzz => hzz.elim id False.elim) (fun b x hlt hx => by
        have hx' : (match E1.O b with
          | some y => some (mvO ⟨[], H.length, S.length⟩ y)
          | none => match ownG E [] [] b with
            | some _ => none
            | none => E.O b) = some x := hx
        cases ho : E1.O b with
        | some y =>
          rcases (hsat.own b y ho).2.1 with q1 | q1
          · omega
          · exact absurd (hnone b) q1
        | none =>
          rw [ho, hnone b] at hx'
          exact hx')⟩
      · have hl : i < E.B.length := by
          have := (stLe_ok hst).1 s hs
          rw [h4.lB]; omega
        have hb2 : (E.B ++ E1.B.drop 0)[i]? = some b := hb'
        rwa [List.getElem?_append_left hl] at hb2
      · have hl : i < E.P.length := by
          have := (List.getElem?_eq_some_iff.1 hi).1
          have := (stLe_ok hst).2 s hs
          rw [h4.lP]; omega
        have hv' : (E.P ++ E1.P)[i]? = some fp := hv
        rwa [List.getElem?_append_left hl] at hv'
    refine ⟨u, rfl, ?_, ?_⟩
    · cases m with
      | o => cases st with
        | none => cases hm
        | some s => exact .inl ⟨rfl, sx_of h5' rfl⟩
      | l => exact .inr rfl
      | _ => cases st <;> cases hm
    · rw [hd]
      refine h r S1 hpost _ _ w' ?_ ?_ ((h3.mono h4.YZ back_le hz).put ?_ (by rw [h1]; exact hn)) hj' h5'
      · rw [(put_size _ _ _).1]; exact h1
      · rw [(put_size _ _ _).2]; exact h2
      · exact C_sh hvx r u hpl hc
  · cases m with
    | o => exact .inl rfl
    | l => exact .inr rfl
    | _ => cases st <;> cases hm
/-- The frame behind a call that has a slot for its answer, or none. -/
def putD (d : Option Nat) (x : AV) (F : Fr) : Fr := match d with
  | some d => (d, x) :: F
  | none => F
def dOk (d : Option Nat) (n : Nat) : Bool := match d with
  | some d => Nat.blt d n
  | none => true
theorem Fits.putD (h3 : Fits E w F a) {dd : Option Nat} {x : AV} {u : Value} (hx : C E w x u) (hd : dOk dd a.tmps.size = true) : Fits E w (Kw.putD dd x F) (a.put dd u) := by
  cases dd with
  | some d => exact h3.put hx hd
  | none => exact h3
/-- A CALL that hands boxes (hb) and slices (ks) over, which come back as the contract says. -/
theorem r_callX {cl : Call} {g : FuncId} {xs ys : List AV} {H0 : Hp} {S0 : Sp} {fn : Func} {Post : AV → Hp → Sp → Prop} {dd : Option Nat} (hb ks : List Nat) (spec : FnX c.P g ys H0 S0 Post) (hi : ops[i]? = some o) (hop : o.op = .call cl) (hd : o.dst = dd) (hn : dOk dd c.n = true) (hg : gOk ops F o.guard = some true)
    (ht : target F cl = some (g, xs)) (hf : c.P.funcs[g]? = some fn) (hnm : (fn.name == "runtime.NumGoroutine") = false) (hbd : fn.body.isSome = true) (hnb : nodupN hb = true) (hnk : nodupN ks = true) (hv : giveL hb ks S xs = some ys) (hH : giveH hb ks S H hb = some H0) (hS : selS S ks = some S0)
    (hp : ∀ r H1 S1, Post r H1 S1 → stA r = true ∧ StH H1 ∧ StS S1)
    (h : ∀ r H1 S1, Post r H1 S1 → GR c ops kz q none sch (putD dd (mvA ⟨hb, H.length, S.length⟩ r) F) (putH hb (mvH ⟨hb, H.length, S.length⟩ (H1.take hb.length)) H ++ mvH ⟨hb, H.length, S.length⟩ (H1.drop hb.length)) (clrS ks S ++ S1)) : GR c ops kz q st ((i, .l) :: sch) F H S := by
  intro E a w h1 h2 h3 h4 h5
  obtain ⟨us, k1, k2⟩ := run_call (P := c.P) hop h3 ht hf hnm hbd
  have hsat0 := h4.give hnb hnk hH hS
  refine seq_call hi (gOk_ok (o := o) h3 hg) k2 ((spec w _ _ us hsat0 (giveL_ok h4 xs ys us hv k1)).mono fun e w' hh => ?_) (.inr rfl)
  obtain ⟨u, r, H1, S1, E1, rfl, hpost, hc, hsat, hnl⟩ := hh
  obtain ⟨hpr, hph, hps⟩ := hp r H1 S1 hpost
  have hvx' : ∀ (k : Nat) (v : Value), E1.V[k]? = some v → (E.back E1 hb ks ⟨hb, H.length, S.length⟩ E1.Y).V[S.length + k]? = some v := fun k v hk => by
    show (E.V ++ E1.V)[S.length + k]? = some v
    rw [← h4.lV, get_app]; exact hk
  have key := h4.join (m := ⟨hb, H.length, S.length⟩) (Yn := E1.Y) hnb hnk hH hS rfl hsat hnl (fun _ h => h)
  -- the boxes' numbers are told by a join without content first
  have hbx0 : ∀ (i b : Nat), E1.B[i]? = some b → (E.back E1 hb ks ⟨hb, H.length, S.length⟩ E1.Y).B[(⟨hb, H.length, S.length⟩ : Mv).bx i]? = some b := by
    intro i b hib
    obtain ⟨lH, aH, gH⟩ := giveH_get hH
    unfold Mv.bx
    rw [getN_eq]
    cases hg : hb[i]? with
    | some k =>
      obtain ⟨t, cs, h3'⟩ := aH i k hg
      obtain ⟨b', us', h4', _⟩ := h4.box k t cs h3'
      have hjl : i < H0.length := by rw [lH]; exact (List.getElem?_eq_some_iff.1 hg).1
      have := hsat.bup i b' hjl (by
        show (hb.map fun i => (E.B[i]?).getD 0)[i]? = some b'
        rw [List.getElem?_map, hg]; simp [h4'])
      rw [hib] at this
      cases this
      exact get_left h4'
    | none =>
      have hge : hb.length ≤ i := by
        rcases Nat.lt_or_ge i hb.length with hlt | hge
        · rw [List.getElem?_eq_getElem hlt] at hg; cases hg
        · exact hge
      show (E.B ++ E1.B.drop hb.length)[H.length + (i - hb.length)]? = some b
      rw [← h4.lB, get_app, List.getElem?_drop, show hb.length + (i - hb.length) = i by omega]
      exact hib
  obtain ⟨hj, hz, hbx, hvx⟩ := key (fun j t cs us hj hcl => CL_mv hbx0 hvx' (fun _ h => .inr h) cs us (hph _ (List.mem_of_getElem? hj) t cs rfl) hcl)
    (fun k e v fp hk ho => OwnE_st (fun _ h => .inr h) (hps _ (List.mem_of_getElem? hk) e rfl) ho)
  refine ⟨u, rfl, .inr rfl, ?_⟩
  rw [hd]
  refine h r H1 S1 hpost _ _ w' ?_ ?_ ((h3.mono h4.YZ back_le hz).putD ?_ (by rw [h1]; exact hn)) hj (fun s hs => by cases hs)
  · rw [(put_size _ _ _).1]; exact h1
  · rw [(put_size _ _ _).2]; exact h2
  · exact C_mv hbx hvx (fun _ h => .inr h) r u hpr hc
end
end Go.Proofs.Ytmocggibcniggaa.Kw
namespace Go.Proofs.Ytmocggibcniggaa.Kw
open Go
/-! ### the return -/
def resOne (T : Tab) (F : Fr) (H : Hp) : ResultVar → Option AV
  | .tmp t => F.get t
  | .cell a t => match T.get t, F.get a with
    | some y, some x => loadA y H x
    | _, _ => none
def resL (T : Tab) (F : Fr) (H : Hp) : List ResultVar → Option (List AV)
  | [] => some []
  | x :: xs => match resOne T F H x, resL T F H xs with
    | some y, some ys => some (y :: ys)
    | _, _ => none
def resV (T : Tab) (F : Fr) (H : Hp) (l : List ResultVar) : Option AV := match resL T F H l with
  | some [x] => some x
  | some xs => some (.tup xs)
  | none => none

mutual
def selA (bs ks : List Nat) : AV → Option AV
  | .r x => some (.r x)
  | .sl k => match idxN k ks with
    | some j => some (.sl j)
    | none => none
  | .box i o => match idxN i bs with
    | some j => some (.box j o)
    | none => none
  | .agg cs => match selL bs ks cs with
    | some ds => some (.agg ds)
    | none => none
  | .tup cs => match selL bs ks cs with
    | some ds => some (.tup ds)
    | none => none
  | .fn f cs => match selL bs ks cs with
    | some ds => some (.fn f ds)
    | none => none
  | .junk => some .junk
  | _ => none
def selL (bs ks : List Nat) : List AV → Option (List AV)
  | [] => some []
  | x :: xs => match selA bs ks x, selL bs ks xs with
    | some y, some ys => some (y :: ys)
    | _, _ => none
end
def selH (bs ks : List Nat) (H : Hp) : List Nat → Option Hp
  | [] => some []
  | i :: is => match H[i]? with
    | some (some (t, cs)) => match selL bs ks cs, selH bs ks H is with
      | some ds, some r => some (some (t, ds) :: r)
      | _, _ => none
    | _ => none
theorem selH_get {bs ks : List Nat} {H : Hp} : ∀ {is : List Nat} {H0 : Hp}, selH bs ks H is = some H0 → H0.length = is.length ∧ (∀ (j : Nat) (i : Nat), is[j]? = some i → ∃ t cs, H[i]? = some (some (t, cs))) ∧ ∀ (j : Nat) (t : TypeId) (ds : List AV), H0[j]? = some (some (t, ds)) → ∃ i cs, is[j]? = some i ∧ H[i]? = some (some (t, cs)) ∧ selL bs ks cs = some ds
  | [], H0, h => by simp only [selH] at h; cases h; exact ⟨rfl, fun j i hi => by simp at hi, fun j t ds hj => by simp at hj⟩
  | x :: is, H0, h => by
    simp only [selH] at h
    split at h
    · rename_i t cs hx
      split at h
      · rename_i ds r hd hr
        cases h
        obtain ⟨h1, h2, h3⟩ := selH_get hr
        refine ⟨by simp [h1], fun j i hi => ?_, fun j t' ds' hj => ?_⟩
        · cases j with
          | zero => simp at hi; subst hi; exact ⟨t, cs, hx⟩
          | succ j => simp at hi; exact h2 j i hi
        · cases j with
          | zero => simp at hj; obtain ⟨rfl, rfl⟩ := hj; exact ⟨x, cs, by simp, hx, hd⟩
          | succ j => simp at hj; obtain ⟨i, cs', k1, k2, k3⟩ := h3 j t' ds' hj; exact ⟨i, cs', by simpa using k1, k2, k3⟩
      · cases h
    · cases h
/-- The list begins with all numbers below n. -/
def prefN (n : Nat) (bs : List Nat) : Bool := match n with
  | 0 => true
  | n + 1 => prefN n bs && match getN bs n with
    | some x => Nat.beq x n
    | none => false
theorem prefN_get : ∀ {n : Nat} {bs : List Nat}, prefN n bs = true → ∀ i, i < n → bs[i]? = some i
  | 0, bs, _, i, hi => absurd hi (Nat.not_lt_zero _)
  | n + 1, bs, h, i, hi => by
    unfold prefN at h
    rw [Bool.and_eq_true] at h
    rcases Nat.lt_or_eq_of_le (Nat.le_of_lt_succ hi) with hi | rfl
    · exact prefN_get h.1 i hi
    · have h2 := h.2
      rw [getN_eq] at h2
      cases hx : bs[i]? with
      | none => rw [hx] at h2; cases h2
      | some x => rw [hx] at h2; rw [Nat.eq_of_beq_eq_true h2]
abbrev Env.pick (E : Env) (bs ks : List Nat) : Env :=
  ⟨bs.map fun i => (E.B[i]?).getD 0, ks.map fun k => (E.V[k]?).getD undef, ks.map fun k => (E.P[k]?).getD [], ownG E bs ks, E.Y, E.Z⟩
section
variable {c : Ctx} {k : List Item} {F : Fr} {H H' : Hp} {S S' : Sp} {r r' : AV} {E E' : Env} {a : Act} {w w' : World} {P : Program} {w0 : World} {X : Org} {bs ks : List Nat}
mutual
theorem C_sel : ∀ (x y : AV) (u : Value), selA bs ks x = some y → C E w x u → C (E.pick bs ks) w y u
  | .r x, y, u, hs, h => by simp only [selA] at hs; cases hs; unfold C at h ⊢; exact h
  | .sl k, y, u, hs, h => by
    simp only [selA] at hs
    split at hs
    · rename_i j hj
      cases hs
      unfold C at h ⊢
      refine ⟨?_, h.2⟩
      show (ks.map fun k => (E.V[k]?).getD undef)[j]? = some u
      rw [List.getElem?_map, idxN_get hj]
      simp [h.1]
    · cases hs
  | .box i o, y, u, hs, h => by
    simp only [selA] at hs
    split at hs
    · rename_i j hj
      cases hs
      unfold C at h ⊢
      obtain ⟨b, h1, h2⟩ := h
      refine ⟨b, ?_, h2⟩
      show (bs.map fun i => (E.B[i]?).getD 0)[j]? = some b
      rw [List.getElem?_map, idxN_get hj]
      simp [h1]
    · cases hs
  | .agg cs, y, u, hs, h => by
    simp only [selA] at hs
    split at hs
    · rename_i ds hd
      cases hs
      unfold C at h ⊢
      obtain ⟨us, h1, h2, h3⟩ := h
      exact ⟨us, h1, CL_sel cs ds us hd h2, h3⟩
    · cases hs
  | .tup cs, y, u, hs, h => by
    simp only [selA] at hs
    split at hs
    · rename_i ds hd
      cases hs
      unfold C at h ⊢
      obtain ⟨us, h1, h2⟩ := h
      exact ⟨us, h1, CL_sel cs ds us hd h2⟩
    · cases hs
  | .fn f cs, y, u, hs, h => by
    simp only [selA] at hs
    split at hs
    · rename_i ds hd
      cases hs
      unfold C at h ⊢
      obtain ⟨us, h1, h2⟩ := h
      exact ⟨us, h1, CL_sel cs ds us hd h2⟩
    · cases hs
  | .junk, y, u, hs, h => by simp only [selA] at hs; cases hs; unfold C; trivial
  | .el _ _ _ _, y, u, hs, h => by simp [selA] at hs
  | .ss _ _ _ _, y, u, hs, h => by simp [selA] at hs
  | .cap _, y, u, hs, h => by simp [selA] at hs
  | .capLe _ _, y, u, hs, h => by simp [selA] at hs
  | .capGt _ _, y, u, hs, h => by simp [selA] at hs
theorem CL_sel : ∀ (xs ys : List AV) (us : List Value), selL bs ks xs = some ys → CL E w xs us → CL (E.pick bs ks) w ys us
  | [], ys, us, hs, h => by simp only [selL] at hs; cases hs; unfold CL at h ⊢; exact h
  | x :: xs, ys, us, hs, h => by
    simp only [selL] at hs
    cases h1 : selA bs ks x with
    | none => simp [h1] at hs
    | some y =>
      cases h2 : selL bs ks xs with
      | none => simp [h1, h2] at hs
      | some ys' =>
        simp only [h1, h2, Option.some.injEq] at hs
        subst hs
        unfold CL at h ⊢
        obtain ⟨u, rr, k1, k2, k3⟩ := h
        exact ⟨u, rr, k1, C_sel x y u h1 k2, CL_sel xs ys' rr h2 k3⟩
end
/-- Of the boxes and slices some are kept. -/
theorem Sat.pick (h : Sat w0 X E H S w) (hnb : nodupN bs = true) (hnk : nodupN ks = true) (hp : prefN X.nb bs = true) (hH : selH bs ks H bs = some H') (hS : selS S ks = some S') (hpv : prefN X.nv ks = true) : Sat w0 X (E.pick bs ks) H' S' w := by
  obtain ⟨lH, aH, gH⟩ := selH_get hH
  obtain ⟨lS, gS⟩ := selS_get hS
  have Bat : ∀ (j b : Nat), (E.pick bs ks).B[j]? = some b → ∃ i, bs[j]? = some i ∧ E.B[i]? = some b := by
    intro j b hj
    obtain ⟨i, h1, h2⟩ := map_get hj
    obtain ⟨t, cs, h3⟩ := aH j i h1
    obtain ⟨b', us, h4, _⟩ := h.box i t cs h3
    rw [h4] at h2
    simp at h2
    subst h2
    exact ⟨i, h1, h4⟩
  have Pat : ∀ (j : Nat) (e : SE) (fp : List Nat), S'[j]? = some (some e) → (E.pick bs ks).P[j]? = some fp → ∃ k, ks[j]? = some k ∧ S[k]? = some (some e) ∧ E.P[k]? = some fp := by
    intro j e fp hj hp
    obtain ⟨k, h1, h2⟩ := gS j e hj
    obtain ⟨k', h3, h4⟩ := map_get hp
    rw [h1] at h3
    cases h3
    obtain ⟨v, fp', _, h5, _⟩ := h.sl k e h2
    rw [h5] at h4
    simp at h4
    subst h4
    exact ⟨k, h1, h2, h5⟩
  refine { h with lB := by simp [lH], lV := by simp [lS], lP := by simp [lS], box := ?_, sl := ?_, oB := ?_, oP := ?_, PN := ?_, own := ?_, bup := ?_, vup := ?_ }
  · intro j t ds hj
    obtain ⟨i, cs, h1, h2, h3⟩ := gH j t ds hj
    obtain ⟨b, us, k1, k2, k3, k4⟩ := h.box i t cs h2
    refine ⟨b, us, ?_, k2, CL_sel cs ds us h3 k3, k4⟩
    show (bs.map fun i => (E.B[i]?).getD 0)[j]? = some b
    rw [List.getElem?_map, h1]
    simp [k1]
  · intro j e hj
    obtain ⟨k, h1, h2⟩ := gS j e hj
    obtain ⟨v, fp, k1, k2, k3⟩ := h.sl k e h2
    refine ⟨v, fp, ?_, ?_, k3⟩
    · show (ks.map fun k => (E.V[k]?).getD undef)[j]? = some v
      rw [List.getElem?_map, h1]; simp [k1]
    · show (ks.map fun k => (E.P[k]?).getD [])[j]? = some fp
      rw [List.getElem?_map, h1]; simp [k2]
  · intro j b hj
    obtain ⟨i, h1, h2⟩ := Bat j b hj
    show ownG E bs ks b = _
    unfold ownG
    rw [h.oB i b h2]
    simp only [idxN_of hnb h1]
  · intro j e fp b hj hp hb'
    obtain ⟨k, h1, h2, h3⟩ := Pat j e fp hj hp
    show ownG E bs ks b = _
    unfold ownG
    rw [h.oP k e fp b h2 h3 hb']
    simp only [idxN_of hnk h1]
  · intro j e fp hj hp
    obtain ⟨k, h1, h2, h3⟩ := Pat j e fp hj hp
    exact h.PN k e fp h2 h3
  · intro b x hx
    have hx' : ownG E bs ks b = some x := hx
    obtain ⟨y, hy⟩ := Option.ne_none_iff_exists'.1 (ownG_some (E := E) (hb := bs) (ks := ks) (b := b) (by rw [hx']; simp))
    exact h.own b y hy
  · intro i b hi hb
    have h1 := h.bup i b hi hb
    have h2 := prefN_get hp i hi
    show (bs.map fun i => (E.B[i]?).getD 0)[i]? = some b
    rw [List.getElem?_map, h2]
    simp [h1]
  · intro i v hi hv
    have h1 := h.vup i v hi hv
    have h2 := prefN_get hpv i hi
    show (ks.map fun i => (E.V[i]?).getD undef)[i]? = some v
    rw [List.getElem?_map, h2]
    simp [h1]
def resRun (tmps : Array Value) : ResultVar → Sem Value
  | .tmp t => pure (tmps.getD t undef)
  | .cell x t => do loadVar t (← asAddr (tmps.getD x undef))
theorem results_eq (fn : Func) (tmps : Array Value) : results fn tmps = (do
    let vs ← fn.results.mapM (resRun tmps)
    pure (if h : vs.size = 1 then vs[0] else .tuple vs)) := rfl
theorem resOne_ok (hT : TabOk P c.T) (hP : P = c.P) (h3 : Fits E w F a) (h4 : Sat w0 X E H S w) {v : ResultVar} (h : resOne c.T F H v = some r) :
    ∃ u, C E w r u ∧ (resRun a.tmps v).run P w = .ok u w := by
  subst hP
  cases v with
  | tmp t =>
    simp only [resOne] at h
    obtain ⟨u, h1, h2⟩ := h3.get t r h
    exact ⟨u, h2, by simp [resRun, Array.getD_eq_getD_getElem?, h1]⟩
  | cell x t =>
    simp only [resOne] at h
    split at h
    · rename_i y v hy hv
      obtain ⟨u0, h1, h2⟩ := h3.get x v hv
      obtain ⟨u, k1, b, o, k2, k3, _, k5⟩ := loadA_ok (c := c) (hT t y hy) h4 h h2
      refine ⟨u, k1, ?_⟩
      subst k2
      simp only [resRun, Array.getD_eq_getD_getElem?, h1, Option.getD_some, asAddr, pure_bind]
      exact k5 w rfl
    · cases h
theorem resL_ok (hT : TabOk c.P c.T) (h3 : Fits E w F a) (h4 : Sat w0 X E H S w) : ∀ {l : List ResultVar} {xs : List AV}, resL c.T F H l = some xs →
    ∃ us, CL E w xs us ∧ (l.mapM (resRun a.tmps)).run c.P w = .ok us w
  | [], xs, h => by simp only [resL] at h; cases h; exact ⟨[], by unfold CL; rfl, by simp⟩
  | v :: l, xs, h => by
    simp only [resL] at h
    split at h
    · rename_i y ys hy hys
      cases h
      obtain ⟨u, k1, k2⟩ := resOne_ok (c := c) hT rfl h3 h4 hy
      obtain ⟨us, m1, m2⟩ := resL_ok hT h3 h4 hys
      refine ⟨u :: us, by unfold CL; exact ⟨u, us, rfl, k1, m1⟩, ?_⟩
      rw [List.mapM_cons, Sem.run_bind, k2, Result.andThen_ok, Sem.run_bind, m2, Result.andThen_ok]
      rfl
    · cases h
theorem resV_ok (hT : TabOk c.P c.T) (h3 : Fits E w F a) (h4 : Sat w0 X E H S w) (h : resV c.T F H c.fn.results.toList = some r) : ∃ u, C E w r u ∧ (results c.fn a.tmps).run c.P w = .ok u w := by
  unfold resV at h
  have run : ∀ (xs : List AV) (us : List Value), CL E w xs us → ((c.fn.results.toList).mapM (resRun a.tmps)).run c.P w = .ok us w →
      (results c.fn a.tmps).run c.P w = .ok (if h : us.length = 1 then us[0] else .tuple (List.toArray us)) w := by
    intro xs us _ hr
    rw [results_eq, Array.mapM_eq_mapM_toList, Sem.run_bind, Sem.run_map, hr]
    simp only [Result.andThen_ok, Sem.run_pure, List.size_toArray]
    rfl
  split at h
  · rename_i x hx
    cases h
    obtain ⟨us, k1, k2⟩ := resL_ok hT h3 h4 hx
    have := run _ us k1 k2
    unfold CL at k1
    obtain ⟨u, rr, rfl, k3, k4⟩ := k1
    unfold CL at k4
    subst k4
    exact ⟨u, k3, by simpa using this⟩
  · rename_i xs hne hx
    cases h
    obtain ⟨us, k1, k2⟩ := resL_ok hT h3 h4 hx
    have hl : us.length ≠ 1 := by
      rw [CL_length k1]
      intro e
      obtain ⟨x, rfl⟩ := List.length_eq_one_iff.1 e
      exact hne x rfl
    refine ⟨.tuple (List.toArray us), by unfold C; exact ⟨us, rfl, k1⟩, ?_⟩
    have := run _ us k1 k2
    rwa [dif_neg hl] at this
  · cases h

/-- The return of a function that was handed boxes: bs: which are kept (those that came in first), ks: which slices. -/
theorem gi_retX {Post : AV → Hp → Sp → Prop} (hT : TabOk c.P c.T) (hf : c.P.funcs[c.f]? = some c.fn) (hc : c.R = RetX c.w0 c.X Post) (bs ks : List Nat) (hr : resV c.T F H c.fn.results.toList = some r) (hnb : nodupN bs = true) (hnk : nodupN ks = true) (hp : prefN c.X.nb bs = true)
    (hs : selA bs ks r = some r') (hH : selH bs ks H bs = some H') (hS : selS S ks = some S') (hlen : Nat.ble c.X.nb H'.length = true) (hpost : Post r' H' S') (hro : c.ro = none := by rfl) (hds : c.ds = [] := by rfl) (hpv : prefN c.X.nv ks = true := by rfl) : GI c (.code .ret :: k) F H S := by
  intro E a w h1 h2 h3 h4
  obtain ⟨u, hu, hrun⟩ := resV_ok hT h3 h4 hr
  refine Reach.ret hro hf (h2.trans hds) hrun ?_
  rw [hc]
  exact ⟨u, r', H', S', E.pick bs ks, rfl, hpost, C_sel r r' u hs hu, h4.pick hnb hnk hp hH hS hpv, Nat.le_of_ble_eq_true hlen⟩
theorem gi_retW {Post : AV → Sp → Prop} (hT : TabOk c.P c.T) (hf : c.P.funcs[c.f]? = some c.fn) (hc : c.R = RetX c.w0 c.X (fun r H S => H = [] ∧ Post r S)) (hX : c.X.nb = 0) (ks : List Nat) (hr : resV c.T F H c.fn.results.toList = some r) (hn : nodupN ks = true) (hs : selA [] ks r = some r') (hS : selS S ks = some S')
    (hp : Post r' S') (hro : c.ro = none := by rfl) (hds : c.ds = [] := by rfl) (hpv : prefN c.X.nv ks = true := by rfl) : GI c (.code .ret :: k) F H S :=
  gi_retX hT hf hc [] ks hr rfl hn (by rw [hX]; rfl) hs rfl hS (by rw [hX]; rfl) ⟨rfl, hp⟩ hro hds hpv
/-- A function that ends without a return. -/
theorem gi_finX {Post : AV → Hp → Sp → Prop} (hT : TabOk c.P c.T) (hf : c.P.funcs[c.f]? = some c.fn) (hc : c.R = RetX c.w0 c.X Post) (bs ks : List Nat) (hr : resV c.T F H c.fn.results.toList = some r) (hnb : nodupN bs = true) (hnk : nodupN ks = true) (hp : prefN c.X.nb bs = true)
    (hs : selA bs ks r = some r') (hH : selH bs ks H bs = some H') (hS : selS S ks = some S') (hlen : Nat.ble c.X.nb H'.length = true) (hpost : Post r' H' S') (hro : c.ro = none := by rfl) (hds : c.ds = [] := by rfl) (hpv : prefN c.X.nv ks = true := by rfl) : GI c [] F H S := by
  intro E a w h1 h2 h3 h4
  obtain ⟨u, hu, hrun⟩ := resV_ok hT h3 h4 hr
  refine Reach.fin hro hf (h2.trans hds) hrun ?_
  rw [hc]
  exact ⟨u, r', H', S', E.pick bs ks, rfl, hpost, C_sel r r' u hs hu, h4.pick hnb hnk hp hH hS hpv, Nat.le_of_ble_eq_true hlen⟩
end
end Go.Proofs.Ytmocggibcniggaa.Kw
namespace Go.Proofs.Ytmocggibcniggaa.Kw
open Go
/-! ### less is told; loops -/
def SubF : Fr → Fr → Prop
  | [], _ => True
  | (d, x) :: r, F => F.get d = some x ∧ SubF r F
def SubH : Hp → Hp → Prop
  | [], _ => True
  | x :: xs, y :: ys => x = y ∧ SubH xs ys
  | _ :: _, [] => False
def SubS : Sp → Sp → Prop
  | [], _ => True
  | x :: xs, y :: ys => x = y ∧ SubS xs ys
  | _ :: _, [] => False
mutual
def scA (n m : Nat) : AV → Bool
  | .r _ => true
  | .box i _ => Nat.blt i n
  | .sl k => Nat.blt k m
  | .el k _ _ _ => Nat.blt k m
  | .ss k _ _ _ => Nat.blt k m
  | .cap k => Nat.blt k m
  | .capLe k _ => Nat.blt k m
  | .capGt k _ => Nat.blt k m
  | .agg cs => scL n m cs
  | .tup cs => scL n m cs
  | .fn _ cs => scL n m cs
  | .junk => true
def scL (n m : Nat) : List AV → Bool
  | [] => true
  | c :: cs => scA n m c && scL n m cs
end
def scF (n m : Nat) : Fr → Bool
  | [] => true
  | (_, x) :: r => scA n m x && scF n m r
def scH (n m : Nat) : Hp → Bool
  | [] => true
  | none :: r => scH n m r
  | some (_, cs) :: r => scL n m cs && scH n m r
def sc (F : Fr) (H : Hp) (S : Sp) : Bool := scF H.length S.length F && scH H.length S.length H
abbrev Env.cutE (E : Env) (n m : Nat) : Env := { E with B := E.B.take n, V := E.V.take m, P := E.P.take m }
section
variable {c : Ctx} {k : List Item} {F F' : Fr} {H H' : Hp} {S S' : Sp} {E E' : Env} {a : Act} {w w' : World} {w0 : World} {X : Org}
theorem take_get {α : Type} {l : List α} {n i : Nat} {x : α} (hi : i < n) (h : l[i]? = some x) : (l.take n)[i]? = some x := by
  rw [List.getElem?_take, if_pos hi]; exact h
theorem get_take {α : Type} {l : List α} {n i : Nat} {x : α} (h : (l.take n)[i]? = some x) : l[i]? = some x := by
  rw [List.getElem?_take] at h
  split at h
  · exact h
  · cases h
mutual
theorem C_sc {n m : Nat} : ∀ (x : AV) (u : Value), scA n m x = true → C E w x u → C (E.cutE n m) w x u
  | .r x, u, _, h => by unfold C at h ⊢; exact h
  | .box i o, u, hs, h => by unfold C at h ⊢; obtain ⟨b, h1, h2⟩ := h; exact ⟨b, take_get (Nat.le_of_ble_eq_true hs) h1, h2⟩
  | .sl k, u, hs, h => by unfold C at h ⊢; exact ⟨take_get (Nat.le_of_ble_eq_true hs) h.1, h.2⟩
  | .el k z i o, u, hs, h => by unfold C at h ⊢; obtain ⟨b, n', c', h1, h2⟩ := h; exact ⟨b, n', c', take_get (Nat.le_of_ble_eq_true hs) h1, h2⟩
  | .ss k z i n', u, hs, h => by unfold C at h ⊢; obtain ⟨A, l, c', h1, h2⟩ := h; exact ⟨A, l, c', take_get (Nat.le_of_ble_eq_true hs) h1, h2⟩
  | .cap k, u, hs, h => by unfold C at h ⊢; obtain ⟨A, l, c', h1, h2⟩ := h; exact ⟨A, l, c', take_get (Nat.le_of_ble_eq_true hs) h1, h2⟩
  | .capLe k N, u, hs, h => by unfold C at h ⊢; obtain ⟨A, l, c', h1, h2⟩ := h; exact ⟨A, l, c', take_get (Nat.le_of_ble_eq_true hs) h1, h2⟩
  | .capGt k N, u, hs, h => by unfold C at h ⊢; obtain ⟨A, l, c', h1, h2⟩ := h; exact ⟨A, l, c', take_get (Nat.le_of_ble_eq_true hs) h1, h2⟩
  | .agg cs, u, hs, h => by unfold C at h ⊢; obtain ⟨us, h1, h2, h3⟩ := h; exact ⟨us, h1, CL_sc cs us hs h2, h3⟩
  | .tup cs, u, hs, h => by unfold C at h ⊢; obtain ⟨us, h1, h2⟩ := h; exact ⟨us, h1, CL_sc cs us hs h2⟩
  | .fn f cs, u, hs, h => by unfold C at h ⊢; obtain ⟨us, h1, h2⟩ := h; exact ⟨us, h1, CL_sc cs us hs h2⟩
  | .junk, u, _, h => by unfold C; trivial
theorem CL_sc {n m : Nat} : ∀ (xs : List AV) (us : List Value), scL n m xs = true → CL E w xs us → CL (E.cutE n m) w xs us
  | [], us, _, h => by unfold CL at h ⊢; exact h
  | x :: xs, us, hs, h => by
    unfold scL at hs
    rw [Bool.and_eq_true] at hs
    unfold CL at h ⊢
    obtain ⟨u, r, h1, h2, h3⟩ := h
    exact ⟨u, r, h1, C_sc x u hs.1 h2, CL_sc xs r hs.2 h3⟩
end
theorem SubF_get : ∀ {F' F : Fr}, SubF F' F → ∀ {d : Nat} {x : AV}, F'.get d = some x → F.get d = some x
  | [], F, _, d, x, h => by simp [Fr.get] at h
  | (d', y) :: r, F, hs, d, x, h => by
    unfold SubF at hs
    unfold Fr.get at h
    cases hb : Nat.beq d' d with
    | true =>
      rw [hb] at h
      have := Nat.eq_of_beq_eq_true hb
      subst this
      simp at h; subst h
      exact hs.1
    | false => rw [hb] at h; exact SubF_get hs.2 h
theorem scF_get {n m : Nat} : ∀ {F : Fr}, scF n m F = true → ∀ {d : Nat} {x : AV}, F.get d = some x → scA n m x = true
  | [], _, d, x, h => by simp [Fr.get] at h
  | (d', y) :: r, hs, d, x, h => by
    unfold scF at hs
    rw [Bool.and_eq_true] at hs
    unfold Fr.get at h
    cases hb : Nat.beq d' d with
    | true => rw [hb] at h; simp at h; subst h; exact hs.1
    | false => rw [hb] at h; exact scF_get hs.2 h
theorem SubH_get : ∀ {H' H : Hp}, SubH H' H → H'.length ≤ H.length ∧ ∀ {i : Nat} {x}, H'[i]? = some x → H[i]? = some x
  | [], H, _ => ⟨by simp, fun {i x} h => by simp at h⟩
  | x :: xs, [], h => h.elim
  | x :: xs, y :: ys, h => by
    unfold SubH at h
    obtain ⟨h1, h2⟩ := SubH_get h.2
    refine ⟨by simp; exact h1, fun {i z} hi => ?_⟩
    cases i with
    | zero => simp at hi ⊢; rw [← h.1]; exact hi
    | succ i => simp at hi ⊢; exact h2 hi
theorem SubS_get : ∀ {H' H : Sp}, SubS H' H → H'.length ≤ H.length ∧ ∀ {i : Nat} {x}, H'[i]? = some x → H[i]? = some x
  | [], H, _ => ⟨by simp, fun {i x} h => by simp at h⟩
  | x :: xs, [], h => h.elim
  | x :: xs, y :: ys, h => by
    unfold SubS at h
    obtain ⟨h1, h2⟩ := SubS_get h.2
    refine ⟨by simp; exact h1, fun {i z} hi => ?_⟩
    cases i with
    | zero => simp at hi ⊢; rw [← h.1]; exact hi
    | succ i => simp at hi ⊢; exact h2 hi
theorem scH_get {n m : Nat} : ∀ {H : Hp}, scH n m H = true → ∀ {i : Nat} {t : TypeId} {cs : List AV}, H[i]? = some (some (t, cs)) → scL n m cs = true
  | [], _, i, t, cs, h => by simp at h
  | none :: r, hs, i, t, cs, h => by
    cases i with
    | zero => simp at h
    | succ i => simp at h; exact scH_get (by simpa [scH] using hs) h
  | some (t', ds) :: r, hs, i, t, cs, h => by
    unfold scH at hs
    rw [Bool.and_eq_true] at hs
    cases i with
    | zero => simp at h; obtain ⟨rfl, rfl⟩ := h; exact hs.1
    | succ i => simp at h; exact scH_get hs.2 h
theorem Sat.weak (h : Sat w0 X E H S w) (hH : SubH H' H) (hS : SubS S' S) (hsc : scH H'.length S'.length H' = true) (hnb : X.nb ≤ H'.length) (hnv : X.nv ≤ S'.length) : Sat w0 X (E.cutE H'.length S'.length) H' S' w := by
  obtain ⟨lH, gH⟩ := SubH_get hH
  obtain ⟨lS, gS⟩ := SubS_get hS
  have at_ : ∀ (j : Nat) (e : SE), S'[j]? = some (some e) → S[j]? = some (some e) ∧ j < S'.length := fun j e hj => ⟨gS hj, (List.getElem?_eq_some_iff.1 hj).1⟩
  refine { h with lB := by simp [h.lB, lH], lV := by simp [h.lV, lS], lP := by simp [h.lP, lS], box := ?_, sl := ?_, oB := fun i b hi => h.oB i b (get_take hi), oP := fun k e fp b hk hp => h.oP k e fp b (at_ k e hk).1 (get_take hp), PN := fun k e fp hk hp => h.PN k e fp (at_ k e hk).1 (get_take hp), bup := fun i b hi hb => take_get (Nat.lt_of_lt_of_le hi hnb) (h.bup i b hi hb), vup := fun k v hk hv => take_get (Nat.lt_of_lt_of_le hk hnv) (h.vup k v hk hv) }
  · intro i t cs hi
    obtain ⟨b, us, k1, k2, k3, k4⟩ := h.box i t cs (gH hi)
    exact ⟨b, us, take_get (List.getElem?_eq_some_iff.1 hi).1 k1, k2, CL_sc cs us (scH_get hsc hi) k3, k4⟩
  · intro k e hk
    obtain ⟨v, fp, k1, k2, k3⟩ := h.sl k e (at_ k e hk).1
    exact ⟨v, fp, take_get (at_ k e hk).2 k1, take_get (at_ k e hk).2 k2, k3⟩
theorem gi_weak (hF : SubF F' F) (hH : SubH H' H) (hS : SubS S' S) (hsc : sc F' H' S' = true) (h : GI c k F' H' S') (hnb : Nat.ble c.X.nb H'.length = true := by rfl) (hnv : ble0 c.X.nv S'.length = true := by rfl) : GI c k F H S := by
  intro E a w h1 h2 h3 h4
  unfold sc at hsc
  rw [Bool.and_eq_true] at hsc
  refine h (E.cutE H'.length S'.length) a w h1 h2 ⟨fun d x hx => ?_⟩ (h4.weak hH hS hsc.2 (Nat.le_of_ble_eq_true hnb) (ble0_le hnv))
  obtain ⟨u, k1, k2⟩ := h3.get d x (SubF_get hF hx)
  exact ⟨u, k1, C_sc x u (scF_get hsc.1 hx) k2⟩
/-- A LOOP: s: what its variables are; pre: what holds of them at its head; ms: what each round lowers. -/
theorem gi_loop {x : Code} {σ : Type} (Fs : σ → Fr) (Hs : σ → Hp) (Ss : σ → Sp) (pre : σ → Prop) (ms : σ → Nat) (s0 : σ) (h0 : pre s0) (hF : SubF (Fs s0) F) (hH : SubH (Hs s0) H) (hS : SubS (Ss s0) S) (hsc : ∀ s, sc (Fs s) (Hs s) (Ss s) = true)
    (round : ∀ s, pre s → (∀ s' F1 H1 S1, pre s' → ms s' < ms s → SubF (Fs s') F1 → SubH (Hs s') H1 → SubS (Ss s') S1 → GI c (.inLoop x :: k) F1 H1 S1) → GI c (.code x :: .inLoop x :: k) (Fs s) (Hs s) (Ss s)) (hnb : ∀ s, Nat.ble c.X.nb (Hs s).length = true := by intro s; rfl) (hnv : ∀ s, ble0 c.X.nv (Ss s).length = true := by intro s; rfl) : GI c (.code (.loop x) :: k) F H S := by
  have key : ∀ n s, ms s = n → pre s → GI c (.code x :: .inLoop x :: k) (Fs s) (Hs s) (Ss s) := by
    intro n
    induction n using Nat.strongRecOn with
    | _ n ih =>
      intro s hn hp
      exact round s hp (fun s' F1 H1 S1 hp' hlt hF' hH' hS' => gi_inLoop (gi_weak hF' hH' hS' (hsc s') (ih (ms s') (hn ▸ hlt) s' rfl hp') (hnb s') (hnv s')))
  exact gi_loop0 (gi_weak hF hH hS (hsc s0) (key _ s0 rfl h0) (hnb s0) (hnv s0))
/-- WAYS MEET: what follows is shown once. -/
theorem gi_cut {k' : List Item} {σ : Type} (Fs : σ → Fr) (Hs : σ → Hp) (Ss : σ → Sp) (pre : σ → Prop) (hsc : ∀ s, sc (Fs s) (Hs s) (Ss s) = true) (after : ∀ s, pre s → GI c k' (Fs s) (Hs s) (Ss s))
    (first : (∀ s F1 H1 S1, pre s → SubF (Fs s) F1 → SubH (Hs s) H1 → SubS (Ss s) S1 → GI c k' F1 H1 S1) → GI c k F H S) (hnb : ∀ s, Nat.ble c.X.nb (Hs s).length = true := by intro s; rfl) (hnv : ∀ s, ble0 c.X.nv (Ss s).length = true := by intro s; rfl) : GI c k F H S :=
  first (fun s _ _ _ hp hF hH hS => gi_weak hF hH hS (hsc s) (after s hp) (hnb s) (hnv s))
/-- A region, but not the one of that number. -/
theorem gi_plain_ne (n : Nat) {id : Nat} {l : List Oper} (_hn : Nat.beq id n = false) (h : GR c (List.toArray l) ⟨k, .it⟩ none none (inText 0 l) F H S) (hnd : ndOk c.ro l = true := by rfl) : GI c (.code (.region id (List.toArray l) false) :: k) F H S := gi_plain h hnd
end
end Go.Proofs.Ytmocggibcniggaa.Kw
