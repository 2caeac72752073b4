/- Part of the proofs of this seat's statements: what the functions compute. No condition. -/
import Derived.Test.YtpkkaadflbppcaaC25L
set_option linter.unusedSimpArgs false
set_option linter.unusedVariables false
namespace Go.Proofs.Ytpkkaadflbppcaa.Kt
open Go Kw Go.Proofs Go.Shelf
attribute [local irreducible] Kw.GI Kw.GR Kw.FnR Kw.FnX
set_option maxHeartbeats 400000
set_option maxRecDepth 100000
section
attribute [local semireducible] Kw.FnR Kw.FnX
theorem bitsLen_ok : FnR Try.prog 40 [.r (.v (.int .u64 0))] (RI 0) := by
  intro w X E us hs hcl
  have h : Calls Try.prog 40 #[.int .u64 0] w fun e w' => e = .returned (.int .i64 (Lib.bitLen (0 : Int).toNat : Nat)) ∧ w' = w := Any.bits_Len (SlLaysF0.n15.bits (P := Try.prog) (ρ := sortE29_ren) { sortE29 with }) 0 w (by decide) (by decide)
  unfold CL at hcl
  obtain ⟨u, r, rfl, hu, hcl⟩ := hcl
  unfold CL at hcl
  subst hcl
  have := C_v hu
  subst this
  refine h.mono fun e w' hh => ?_
  obtain ⟨rfl, rfl⟩ := hh
  exact ⟨_, I 0, [], [], E, rfl, ⟨rfl, rfl, rfl⟩, C_v_mk rfl, hs, Nat.zero_le _⟩
end
abbrev RT0 : AV → Sp → Prop := fun r S => r = .tup [] ∧ S = []
theorem pT0 : ∀ r S1, (r = .tup [] ∧ S1 = []) → plainA r = true ∧ PlainS S1 := by
  rintro r S ⟨rfl, rfl⟩
  exact ⟨rfl, PlainS.nil⟩
abbrev aC : AV := .fn 30 []
theorem ins0_ok : FnR Try.prog 42 [.r (.rs 5 []), I 0, I 0, aC] RT0 := by
  refine fnR_intro (T := TT) (n := 53) Try.func42 rfl rfl rfl (fun w Z => ?_)
  (repeat (first | (refine r_end ?_) | (refine r_op ?_; first | refine r_pure hT rfl rfl rfl rfl rfl rfl ?_ | refine r_load hT rfl rfl rfl rfl rfl rfl rfl rfl rfl ?_ | refine r_box rfl rfl rfl rfl rfl rfl rfl rfl rfl ?_ | refine r_store hT rfl rfl rfl rfl rfl rfl rfl rfl rfl rfl ?_ | refine r_off rfl rfl rfl rfl rfl ?_ | refine r_alloc hT rfl rfl rfl rfl rfl rfl rfl rfl rfl ?_ | refine r_lit hT rfl rfl rfl rfl rfl rfl rfl rfl rfl rfl rfl rfl rfl ?_ | refine r_off0 rfl rfl rfl rfl ?_ | refine r_storeO hT rfl rfl rfl rfl rfl rfl rfl rfl rfl rfl rfl ?_) | (refine gi_seq ?_) | (refine gi_plain ?_) | (refine gi_skip ?_) | (refine gi_block ?_) | (refine gi_inBlock ?_) | (refine gi_exit rfl ?_) | (refine gi_cnd ?_; first | refine gi_true rfl ?_ | refine gi_false rfl ?_) | (refine gi_label ?_)))
  refine gi_loop0 ?_
  (repeat (first | (refine r_end ?_) | (refine r_op ?_; first | refine r_pure hT rfl rfl rfl rfl rfl rfl ?_ | refine r_load hT rfl rfl rfl rfl rfl rfl rfl rfl rfl ?_ | refine r_box rfl rfl rfl rfl rfl rfl rfl rfl rfl ?_ | refine r_store hT rfl rfl rfl rfl rfl rfl rfl rfl rfl rfl ?_ | refine r_off rfl rfl rfl rfl rfl ?_ | refine r_alloc hT rfl rfl rfl rfl rfl rfl rfl rfl rfl ?_ | refine r_lit hT rfl rfl rfl rfl rfl rfl rfl rfl rfl rfl rfl rfl rfl ?_ | refine r_off0 rfl rfl rfl rfl ?_ | refine r_storeO hT rfl rfl rfl rfl rfl rfl rfl rfl rfl rfl rfl ?_) | (refine gi_seq ?_) | (refine gi_plain ?_) | (refine gi_skip ?_) | (refine gi_block ?_) | (refine gi_inBlock ?_) | (refine gi_exit rfl ?_) | (refine gi_cnd ?_; first | refine gi_true rfl ?_ | refine gi_false rfl ?_) | (refine gi_label ?_)))
  refine gi_lt rfl (fun h => ?_) (fun h => ?_)
  · rw [wr_i64 (by decide) (by decide)] at h; omega
  (repeat (first | (refine r_end ?_) | (refine r_op ?_; first | refine r_pure hT rfl rfl rfl rfl rfl rfl ?_ | refine r_load hT rfl rfl rfl rfl rfl rfl rfl rfl rfl ?_ | refine r_box rfl rfl rfl rfl rfl rfl rfl rfl rfl ?_ | refine r_store hT rfl rfl rfl rfl rfl rfl rfl rfl rfl rfl ?_ | refine r_off rfl rfl rfl rfl rfl ?_ | refine r_alloc hT rfl rfl rfl rfl rfl rfl rfl rfl rfl ?_ | refine r_lit hT rfl rfl rfl rfl rfl rfl rfl rfl rfl rfl rfl rfl rfl ?_ | refine r_off0 rfl rfl rfl rfl ?_ | refine r_storeO hT rfl rfl rfl rfl rfl rfl rfl rfl rfl rfl rfl ?_) | (refine gi_seq ?_) | (refine gi_plain ?_) | (refine gi_skip ?_) | (refine gi_block ?_) | (refine gi_inBlock ?_) | (refine gi_exit rfl ?_) | (refine gi_cnd ?_; first | refine gi_true rfl ?_ | refine gi_false rfl ?_) | (refine gi_label ?_)))
  refine gi_finX hT Try.func42 rfl [] [] rfl rfl rfl rfl rfl rfl rfl rfl ?_
  exact ⟨rfl, rfl, rfl⟩
theorem pdq0_ok : FnR Try.prog 39 [.r (.rs 5 []), I 0, I 0, I 0, aC] RT0 := by
  refine fnR_intro (T := TT) (n := 148) Try.func39 rfl rfl rfl (fun w Z => ?_)
  (repeat (first | (refine r_end ?_) | (refine r_op ?_; first | refine r_pure hT rfl rfl rfl rfl rfl rfl ?_ | refine r_load hT rfl rfl rfl rfl rfl rfl rfl rfl rfl ?_ | refine r_box rfl rfl rfl rfl rfl rfl rfl rfl rfl ?_ | refine r_store hT rfl rfl rfl rfl rfl rfl rfl rfl rfl rfl ?_ | refine r_off rfl rfl rfl rfl rfl ?_ | refine r_alloc hT rfl rfl rfl rfl rfl rfl rfl rfl rfl ?_ | refine r_lit hT rfl rfl rfl rfl rfl rfl rfl rfl rfl rfl rfl rfl rfl ?_ | refine r_off0 rfl rfl rfl rfl ?_ | refine r_storeO hT rfl rfl rfl rfl rfl rfl rfl rfl rfl rfl rfl ?_) | (refine gi_seq ?_) | (refine gi_plain ?_) | (refine gi_skip ?_) | (refine gi_block ?_) | (refine gi_inBlock ?_) | (refine gi_exit rfl ?_) | (refine gi_cnd ?_; first | refine gi_true rfl ?_ | refine gi_false rfl ?_) | (refine gi_label ?_)))
  refine gi_loop0 ?_
  (repeat (first | (refine r_end ?_) | (refine r_op ?_; first | refine r_pure hT rfl rfl rfl rfl rfl rfl ?_ | refine r_load hT rfl rfl rfl rfl rfl rfl rfl rfl rfl ?_ | refine r_box rfl rfl rfl rfl rfl rfl rfl rfl rfl ?_ | refine r_store hT rfl rfl rfl rfl rfl rfl rfl rfl rfl rfl ?_ | refine r_off rfl rfl rfl rfl rfl ?_ | refine r_alloc hT rfl rfl rfl rfl rfl rfl rfl rfl rfl ?_ | refine r_lit hT rfl rfl rfl rfl rfl rfl rfl rfl rfl rfl rfl rfl rfl ?_ | refine r_off0 rfl rfl rfl rfl ?_ | refine r_storeO hT rfl rfl rfl rfl rfl rfl rfl rfl rfl rfl rfl ?_) | (refine gi_seq ?_) | (refine gi_plain ?_) | (refine gi_skip ?_) | (refine gi_block ?_) | (refine gi_inBlock ?_) | (refine gi_exit rfl ?_) | (refine gi_cnd ?_; first | refine gi_true rfl ?_ | refine gi_false rfl ?_) | (refine gi_label ?_)))
  refine gi_le rfl (fun h => ?_) (fun h => ?_)
  · (repeat (first | (refine r_end ?_) | (refine r_op ?_; first | refine r_pure hT rfl rfl rfl rfl rfl rfl ?_ | refine r_load hT rfl rfl rfl rfl rfl rfl rfl rfl rfl ?_ | refine r_box rfl rfl rfl rfl rfl rfl rfl rfl rfl ?_ | refine r_store hT rfl rfl rfl rfl rfl rfl rfl rfl rfl rfl ?_ | refine r_off rfl rfl rfl rfl rfl ?_ | refine r_alloc hT rfl rfl rfl rfl rfl rfl rfl rfl rfl ?_ | refine r_lit hT rfl rfl rfl rfl rfl rfl rfl rfl rfl rfl rfl rfl rfl ?_ | refine r_off0 rfl rfl rfl rfl ?_ | refine r_storeO hT rfl rfl rfl rfl rfl rfl rfl rfl rfl rfl rfl ?_) | (refine gi_seq ?_) | (refine gi_plain ?_) | (refine gi_skip ?_) | (refine gi_block ?_) | (refine gi_inBlock ?_) | (refine gi_exit rfl ?_) | (refine gi_cnd ?_; first | refine gi_true rfl ?_ | refine gi_false rfl ?_) | (refine gi_label ?_)))
    refine r_call (ins0_ok) rfl rfl rfl rfl rfl rfl rfl rfl Try.func42 rfl rfl rfl pT0 ?_
    rintro r S1 ⟨rfl, rfl⟩
    (repeat (first | (refine r_end ?_) | (refine r_op ?_; first | refine r_pure hT rfl rfl rfl rfl rfl rfl ?_ | refine r_load hT rfl rfl rfl rfl rfl rfl rfl rfl rfl ?_ | refine r_box rfl rfl rfl rfl rfl rfl rfl rfl rfl ?_ | refine r_store hT rfl rfl rfl rfl rfl rfl rfl rfl rfl rfl ?_ | refine r_off rfl rfl rfl rfl rfl ?_ | refine r_alloc hT rfl rfl rfl rfl rfl rfl rfl rfl rfl ?_ | refine r_lit hT rfl rfl rfl rfl rfl rfl rfl rfl rfl rfl rfl rfl rfl ?_ | refine r_off0 rfl rfl rfl rfl ?_ | refine r_storeO hT rfl rfl rfl rfl rfl rfl rfl rfl rfl rfl rfl ?_) | (refine gi_seq ?_) | (refine gi_plain ?_) | (refine gi_skip ?_) | (refine gi_block ?_) | (refine gi_inBlock ?_) | (refine gi_exit rfl ?_) | (refine gi_cnd ?_; first | refine gi_true rfl ?_ | refine gi_false rfl ?_) | (refine gi_label ?_)))
    refine gi_retW hT Try.func39 rfl rfl [] rfl rfl rfl rfl ?_
    exact ⟨rfl, rfl⟩
  · rw [wr_i64 (by decide) (by decide)] at h; omega
theorem sort0_ok : FnR Try.prog 29 [.r (.rs 5 []), aC] RT0 := by
  refine fnR_intro (T := TT) (n := 14) Try.func29 rfl rfl rfl (fun w Z => ?_)
  (repeat (first | (refine r_end ?_) | (refine r_op ?_; first | refine r_pure hT rfl rfl rfl rfl rfl rfl ?_ | refine r_load hT rfl rfl rfl rfl rfl rfl rfl rfl rfl ?_ | refine r_box rfl rfl rfl rfl rfl rfl rfl rfl rfl ?_ | refine r_store hT rfl rfl rfl rfl rfl rfl rfl rfl rfl rfl ?_ | refine r_off rfl rfl rfl rfl rfl ?_ | refine r_alloc hT rfl rfl rfl rfl rfl rfl rfl rfl rfl ?_ | refine r_lit hT rfl rfl rfl rfl rfl rfl rfl rfl rfl rfl rfl rfl rfl ?_ | refine r_off0 rfl rfl rfl rfl ?_ | refine r_storeO hT rfl rfl rfl rfl rfl rfl rfl rfl rfl rfl rfl ?_) | (refine gi_seq ?_) | (refine gi_plain ?_) | (refine gi_skip ?_) | (refine gi_block ?_) | (refine gi_inBlock ?_) | (refine gi_exit rfl ?_) | (refine gi_cnd ?_; first | refine gi_true rfl ?_ | refine gi_false rfl ?_) | (refine gi_label ?_)))
  refine r_turn (d := 10) (y := .r (.v (.int .u64 0))) rfl (by show AV.r (.v (.int .u64 (wr .u64 ((([] : List (List RV)).length : Nat))))) = _; rw [wr_eq]; rfl) ?_
  refine r_call (bitsLen_ok) rfl rfl rfl rfl rfl rfl rfl rfl Try.func40 rfl rfl rfl pI ?_
  rintro r S1 ⟨rfl, rfl⟩
  (repeat (first | (refine r_end ?_) | (refine r_op ?_; first | refine r_pure hT rfl rfl rfl rfl rfl rfl ?_ | refine r_load hT rfl rfl rfl rfl rfl rfl rfl rfl rfl ?_ | refine r_box rfl rfl rfl rfl rfl rfl rfl rfl rfl ?_ | refine r_store hT rfl rfl rfl rfl rfl rfl rfl rfl rfl rfl ?_ | refine r_off rfl rfl rfl rfl rfl ?_ | refine r_alloc hT rfl rfl rfl rfl rfl rfl rfl rfl rfl ?_ | refine r_lit hT rfl rfl rfl rfl rfl rfl rfl rfl rfl rfl rfl rfl rfl ?_ | refine r_off0 rfl rfl rfl rfl ?_ | refine r_storeO hT rfl rfl rfl rfl rfl rfl rfl rfl rfl rfl rfl ?_) | (refine gi_seq ?_) | (refine gi_plain ?_) | (refine gi_skip ?_) | (refine gi_block ?_) | (refine gi_inBlock ?_) | (refine gi_exit rfl ?_) | (refine gi_cnd ?_; first | refine gi_true rfl ?_ | refine gi_false rfl ?_) | (refine gi_label ?_)))
  refine r_call (pdq0_ok) rfl rfl rfl rfl rfl rfl rfl rfl Try.func39 rfl rfl rfl pT0 ?_
  rintro r S1 ⟨rfl, rfl⟩
  (repeat (first | (refine r_end ?_) | (refine r_op ?_; first | refine r_pure hT rfl rfl rfl rfl rfl rfl ?_ | refine r_load hT rfl rfl rfl rfl rfl rfl rfl rfl rfl ?_ | refine r_box rfl rfl rfl rfl rfl rfl rfl rfl rfl ?_ | refine r_store hT rfl rfl rfl rfl rfl rfl rfl rfl rfl rfl ?_ | refine r_off rfl rfl rfl rfl rfl ?_ | refine r_alloc hT rfl rfl rfl rfl rfl rfl rfl rfl rfl ?_ | refine r_lit hT rfl rfl rfl rfl rfl rfl rfl rfl rfl rfl rfl rfl rfl ?_ | refine r_off0 rfl rfl rfl rfl ?_ | refine r_storeO hT rfl rfl rfl rfl rfl rfl rfl rfl rfl rfl rfl ?_) | (refine gi_seq ?_) | (refine gi_plain ?_) | (refine gi_skip ?_) | (refine gi_block ?_) | (refine gi_inBlock ?_) | (refine gi_exit rfl ?_) | (refine gi_cnd ?_; first | refine gi_true rfl ?_ | refine gi_false rfl ?_) | (refine gi_label ?_)))
  refine gi_finX hT Try.func29 rfl [] [] rfl rfl rfl rfl rfl rfl rfl rfl ?_
  exact ⟨rfl, rfl, rfl⟩
def ri : Option RV → Int
  | some (.v (.int _ n)) => n
  | _ => 0
def cfr (a b : List RV) : Int := kcf (ri a[2]?) (ri a[0]?) (ri a[1]?) (ri b[2]?) (ri b[0]?) (ri b[1]?)
theorem dec_E {Y Z : Nat → Prop} {w : World} {c : En} {vs : List Value} (h : RL Y Z w c.row vs) : ∃ x : Rw, x.enc = vs ∧ x.p = c.p ∧ x.b = c.b ∧ x.g = c.g := by
  unfold RL at h
  obtain ⟨u1, r1, rfl, h1, h⟩ := h
  unfold RL at h
  obtain ⟨u2, r2, rfl, h2, h⟩ := h
  unfold RL at h
  obtain ⟨u3, r3, rfl, h3, h⟩ := h
  unfold RL at h
  obtain ⟨u4, r4, rfl, h4, h⟩ := h
  unfold RL at h
  obtain ⟨u5, r5, rfl, h5, h⟩ := h
  unfold RL at h
  subst h
  have o5 := CR_one h5
  unfold CR at h1 h2 h3 h4
  rw [h1.1, h2.1, h3.1, h4.1]
  exact ⟨⟨c.p, c.b, c.g, c.u, ⟨u5, o5⟩⟩, rfl, rfl, rfl, rfl⟩
theorem enc_inj {x y : Rw} (h : x.enc = y.enc) : x.p = y.p ∧ x.b = y.b ∧ x.g = y.g := by
  unfold Rw.enc at h
  simp only [List.cons.injEq, Value.int.injEq, true_and] at h
  exact ⟨h.1, h.2.1, h.2.2.1⟩
abbrev En.lt (a b : En) : Prop := klt a.g a.p a.b b.g b.p b.b
theorem oneE (x : Rw) : ∀ v ∈ x.enc, v.oneCell' = true := fun v hv => by
  unfold Rw.enc at hv
  simp only [List.mem_cons, List.not_mem_nil, or_false] at hv
  rcases hv with rfl | rfl | rfl | rfl | rfl <;> first | rfl | exact x.v.2
theorem hsortE (blk cap : Nat) (d : Array Rw) (w : World) (h1 : CmpLays Try.prog 30 #[] Rw.enc 5 Rw.cf blk 0 d.size w) (h2 : Go.Sort.HoldsK Rw.enc 5 w blk 0 d) (h3 : blk < w.heap.size) (h4 : d.size < 4611686018427387904) :
    Calls Try.prog 29 #[.slice (some ⟨blk, 0, none⟩) d.size cap, .func (.func 30) #[] #[]] w fun e w' => e = .returned (.tuple #[]) ∧ ∃ d' n os, Go.Sort.PermIn 0 d.size d d' ∧ Go.Sort.SortedIn (Go.Proofs.ltOf Rw.cf) 0 d.size d' ∧ w' = sortWorldK Rw.enc 5 w blk 0 n d' os :=
  AnyQ.slices_SortFunc sortE29 5 (fun w => Try.isAgg37 w) (fun w => Try.sizeOf37 w) Rw.enc (fun _ => rfl) oneE Rw.cf swo 30 #[] blk 0 cap d w (enters_of Try.func30 (by kernel_rfl) rfl) h1 h2 h3 h4
theorem hdecE (l : List En) (Y Z : Nat → Prop) (w : World) : ∀ row ∈ l.map En.row, ∀ vs, RL Y Z w row vs → ∃ x : Rw, x.enc = vs := fun row hr vs h => by
  obtain ⟨c, _, rfl⟩ := List.mem_map.1 hr
  obtain ⟨x, hx, _⟩ := dec_E h
  exact ⟨x, hx⟩
theorem hcfE (l : List En) (Y Z : Nat → Prop) (w : World) (r1 r2 : List RV) (x1 x2 : Rw) (hr1 : r1 ∈ l.map En.row) (hr2 : r2 ∈ l.map En.row) (e1 : RL Y Z w r1 x1.enc) (e2 : RL Y Z w r2 x2.enc) : x1.cf x2 = cfr r1 r2 := by
  obtain ⟨c1, _, rfl⟩ := List.mem_map.1 hr1
  obtain ⟨c2, _, rfl⟩ := List.mem_map.1 hr2
  obtain ⟨y1, g1, p1, b1, q1⟩ := dec_E e1
  obtain ⟨y2, g2, p2, b2, q2⟩ := dec_E e2
  obtain ⟨i1, i2, i3⟩ := enc_inj g1
  obtain ⟨j1, j2, j3⟩ := enc_inj g2
  show kcf x1.g x1.p x1.b x2.g x2.p x2.b = kcf c1.g c1.p c1.b c2.g c2.p c2.b
  rw [← i1, ← i2, ← i3, ← j1, ← j2, ← j3, p1, b1, q1, p2, b2, q2]
def Srt (l : List En) : Prop := ∀ (i j : Nat) (a b : En), i < j → l[i]? = some a → l[j]? = some b → ¬ b.lt a
theorem sorted_of {l : List En} {L' : List (List RV)} (h1 : L'.Perm (l.map En.row)) (h2 : ∀ (i j : Nat) (a b : List RV), i < j → L'[i]? = some a → L'[j]? = some b → ¬ cfr b a < 0) : ∃ l' : List En, L' = l'.map En.row ∧ l'.Perm l ∧ Srt l' := by
  obtain ⟨l', k1, k2⟩ := perm_map (F := En.row) h1 l rfl
  subst k1
  refine ⟨l', rfl, k2, fun i j a b hij ha hb => ?_⟩
  have := h2 i j a.row b.row hij (by rw [List.getElem?_map, ha]; rfl) (by rw [List.getElem?_map, hb]; rfl)
  have e : cfr b.row a.row = kcf b.g b.p b.b a.g a.p a.b := rfl
  rw [e, kcf_lt] at this
  exact this
theorem Srt.nil : Srt [] := fun i j a b _ h _ => by simp at h
theorem r_sortE {c : Ctx} {ops : Array Oper} {kz : Kz} {q st : Option St} {i : Nat} {sch : List (Nat × Md)} {F : Fr} {H : Hp} {S : Sp} {o : Oper} {cl : Call} {dd : Option Nat} {kn : Nat} (l : List En) (hP : c.P = Try.prog) (hl : l.length < 1000000) (hne : l ≠ []) (hi : ops[i]? = some o) (hop : o.op = .call cl) (hd : o.dst = dd) (hn : dOk dd c.n = true) (hg : gOk ops F o.guard = some true)
    (ht : target F cl = some (29, [.sl kn, aC])) (hS : S[kn]? = some (eE l)) (h : ∀ l', l'.Perm l → Srt l' → GR c ops kz q none sch (putD dd (.tup []) F) H (S.set kn (eE l'))) : GR c ops kz q st ((i, .l) :: sch) F H S := by
  cases c with
  | mk P T f fn n w0 X R =>
  have hP' : P = Try.prog := hP
  subst hP'
  have k1 : ∀ x : Rw, x.enc.length = 5 := fun _ => rfl
  have k2 : 0 < 5 := by decide
  have k3 := All1_ok
  refine r_sort (kn := kn) (sz := 5) (enc := Rw.enc) (cf := Rw.cf) (f := 29) (g := 30) (e := 37) k1 k2 Rw.av Rw.hA All1_ok hsortE (hdecE l) cfr (hcfE l) (by simpa using hne) (by rw [List.length_map]; omega) hi hop hd hn hg ht Try.func29 rfl rfl hS (fun L' m1 m2 => by
    obtain ⟨l', rfl, h1, h2⟩ := sorted_of m1 m2
    exact h l' h1 h2)
end Go.Proofs.Ytpkkaadflbppcaa.Kt
