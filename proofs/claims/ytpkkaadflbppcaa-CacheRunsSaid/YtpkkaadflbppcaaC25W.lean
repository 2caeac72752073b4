/- Part of the proofs of this seat's statements: what the functions compute. No condition. -/
import Derived.Test.YtpkkaadflbppcaaC10P
import Derived.Test.YtpkkaadflbppcaaK3
import Derived.Test.YtpkkaadflbppcaaProg
set_option linter.unusedSimpArgs false
set_option linter.unusedVariables false
namespace Go.Proofs.Ytpkkaadflbppcaa.Kt
open Go Kw Go.Proofs
attribute [local irreducible] Kw.GI Kw.GR Kw.FnR
theorem y3 : tyOf Try.prog 3 = some ⟨false, 1, 8, [.int .i64 0], [], none, some .i64, false, false, false⟩ := by kernel_rfl
theorem y4 : tyOf Try.prog 4 = some ⟨false, 1, 1, [.bool false], [], none, none, true, false, false⟩ := by kernel_rfl
theorem y5 : tyOf Try.prog 5 = some ⟨false, 1, 1, [.int .u8 0], [], none, some .u8, false, false, false⟩ := by kernel_rfl
theorem y29 : tyOf Try.prog 29 = some ⟨false, 1, 8, [.pointer none], [], none, none, false, true, false⟩ := by kernel_rfl
theorem y30 : tyOf Try.prog 30 = some ⟨false, 1, 8, [.int .i64 0], [], none, some .i64, false, false, false⟩ := by kernel_rfl
theorem y35 : tyOf Try.prog 35 = some ⟨false, 1, 24, [.slice none 0 0], [], some 57, none, false, false, false⟩ := by kernel_rfl
theorem y37 : tyOf Try.prog 37 = some ⟨true, 5, 56, [.int .i64 0, .int .i64 0, .int .i64 0, .int .i64 0, .slice none 0 0], [(0,1,false), (1,1,false), (2,1,false), (3,1,false), (4,1,false)], none, none, false, false, false⟩ := by kernel_rfl
theorem y41 : tyOf Try.prog 41 = some ⟨false, 1, 24, [.slice none 0 0], [], some 5, none, false, false, false⟩ := by kernel_rfl
theorem y42 : tyOf Try.prog 42 = some ⟨false, 1, 24, [.slice none 0 0], [], some 37, none, false, false, false⟩ := by kernel_rfl
theorem y45 : tyOf Try.prog 45 = some ⟨false, 1, 24, [.slice none 0 0], [], some 50, none, false, false, false⟩ := by kernel_rfl
theorem y46 : tyOf Try.prog 46 = some ⟨false, 1, 8, [.pointer none], [], none, none, false, true, false⟩ := by kernel_rfl
theorem y50 : tyOf Try.prog 50 = some ⟨true, 6, 64, [.int .i64 0, .int .i64 0, .int .i64 0, .int .i64 0, .int .i64 0, .slice none 0 0], [(0,1,false), (1,5,true)], none, none, false, false, false⟩ := by kernel_rfl
theorem y53 : tyOf Try.prog 53 = some ⟨true, 2, 32, [.int .i64 0, .slice none 0 0], [(0,1,false), (1,1,false)], none, none, false, false, false⟩ := by kernel_rfl
theorem y57 : tyOf Try.prog 57 = some ⟨true, 2, 16, [.int .i64 0, .int .i64 0], [(0,1,false), (1,1,false)], none, none, false, false, true⟩ := by kernel_rfl
theorem y60 : tyOf Try.prog 60 = some ⟨true, 2, 32, [.slice none 0 0, .int .i64 0], [(0,1,false), (1,1,false)], none, none, false, false, false⟩ := by kernel_rfl
theorem y68 : tyOf Try.prog 68 = some ⟨false, 1, 8, [.nilFunc], [], none, none, false, false, false⟩ := by kernel_rfl
theorem y74 : tyOf Try.prog 74 = some ⟨false, 1, 8, [.int .u64 0], [], none, some .u64, false, false, false⟩ := by kernel_rfl
theorem y75 : tyOf Try.prog 75 = some ⟨false, 1, 24, [.slice none 0 0], [], some 3, none, false, false, false⟩ := by kernel_rfl
def TT : Tab := [(3, ⟨false, 1, 8, [.int .i64 0], [], none, some .i64, false, false, false⟩), (4, ⟨false, 1, 1, [.bool false], [], none, none, true, false, false⟩), (5, ⟨false, 1, 1, [.int .u8 0], [], none, some .u8, false, false, false⟩), (29, ⟨false, 1, 8, [.pointer none], [], none, none, false, true, false⟩), (30, ⟨false, 1, 8, [.int .i64 0], [], none, some .i64, false, false, false⟩), (35, ⟨false, 1, 24, [.slice none 0 0], [], some 57, none, false, false, false⟩), (37, ⟨true, 5, 56, [.int .i64 0, .int .i64 0, .int .i64 0, .int .i64 0, .slice none 0 0], [(0,1,false), (1,1,false), (2,1,false), (3,1,false), (4,1,false)], none, none, false, false, false⟩), (41, ⟨false, 1, 24, [.slice none 0 0], [], some 5, none, false, false, false⟩), (42, ⟨false, 1, 24, [.slice none 0 0], [], some 37, none, false, false, false⟩), (45, ⟨false, 1, 24, [.slice none 0 0], [], some 50, none, false, false, false⟩), (46, ⟨false, 1, 8, [.pointer none], [], none, none, false, true, false⟩), (50, ⟨true, 6, 64, [.int .i64 0, .int .i64 0, .int .i64 0, .int .i64 0, .int .i64 0, .slice none 0 0], [(0,1,false), (1,5,true)], none, none, false, false, false⟩), (53, ⟨true, 2, 32, [.int .i64 0, .slice none 0 0], [(0,1,false), (1,1,false)], none, none, false, false, false⟩), (57, ⟨true, 2, 16, [.int .i64 0, .int .i64 0], [(0,1,false), (1,1,false)], none, none, false, false, true⟩), (60, ⟨true, 2, 32, [.slice none 0 0, .int .i64 0], [(0,1,false), (1,1,false)], none, none, false, false, false⟩), (68, ⟨false, 1, 8, [.nilFunc], [], none, none, false, false, false⟩), (74, ⟨false, 1, 8, [.int .u64 0], [], none, some .u64, false, false, false⟩), (75, ⟨false, 1, 24, [.slice none 0 0], [], some 3, none, false, false, false⟩)]
theorem hT : TabOk Try.prog TT := .cons y3 (.cons y4 (.cons y5 (.cons y29 (.cons y30 (.cons y35 (.cons y37 (.cons y41 (.cons y42 (.cons y45 (.cons y46 (.cons y50 (.cons y53 (.cons y57 (.cons y60 (.cons y68 (.cons y74 (.cons y75 (.nil _))))))))))))))))))
theorem hm : Try.prog.follows .mixedOrders = true := by kernel_rfl
abbrev I (n : Int) : AV := .r (.v (.int .i64 n))
abbrev Bo (n : Bool) : AV := .r (.v (.bool n))
theorem pI {x : Int} : ∀ r S1, (r = I x ∧ S1 = []) → plainA r = true ∧ PlainS S1 := by
  rintro r S ⟨rfl, rfl⟩
  exact ⟨rfl, PlainS.nil⟩
theorem pB {x : Bool} : ∀ r S1, (r = Bo x ∧ S1 = []) → plainA r = true ∧ PlainS S1 := by
  rintro r S ⟨rfl, rfl⟩
  exact ⟨rfl, PlainS.nil⟩
abbrev RI (x : Int) : AV → Sp → Prop := fun r S => r = I x ∧ S = []
abbrev RB (x : Bool) : AV → Sp → Prop := fun r S => r = Bo x ∧ S = []
theorem isNaN_ok (x : Int) : FnR Try.prog 41 [I x] (RB false) := by
  refine fnR_intro (T := TT) (n := 6) Try.func41 rfl rfl rfl (fun w Z => ?_)
  (repeat (first | (refine r_end ?_) | (refine r_op ?_; first | refine r_pure hT rfl rfl rfl rfl rfl rfl ?_ | refine r_load hT rfl rfl rfl rfl rfl rfl rfl rfl rfl ?_ | refine r_box rfl rfl rfl rfl rfl rfl rfl rfl rfl ?_ | refine r_store hT rfl rfl rfl rfl rfl rfl rfl rfl rfl rfl ?_ | refine r_off rfl rfl rfl rfl rfl ?_ | refine r_alloc hT rfl rfl rfl rfl rfl rfl rfl rfl rfl ?_ | refine r_lit hT rfl rfl rfl rfl rfl rfl rfl rfl rfl rfl rfl rfl rfl ?_ | refine r_off0 rfl rfl rfl rfl ?_ | refine r_storeO hT rfl rfl rfl rfl rfl rfl rfl rfl rfl rfl rfl ?_) | (refine gi_seq ?_) | (refine gi_plain ?_) | (refine gi_skip ?_) | (refine gi_block ?_) | (refine gi_inBlock ?_) | (refine gi_exit rfl ?_) | (refine gi_cnd ?_; first | refine gi_true rfl ?_ | refine gi_false rfl ?_) | (refine gi_label ?_)))
  refine gi_retW hT Try.func41 rfl rfl [] rfl rfl rfl rfl ?_
  exact ⟨by simp [notB_eq, eqB_eq], rfl⟩
theorem Compare_ok (x y : Int) : FnR Try.prog 32 [I x, I y] (RI (cmp3 x y)) := by
  refine fnR_intro (T := TT) (n := 20) Try.func32 rfl rfl rfl (fun w Z => ?_)
  (repeat (first | (refine r_end ?_) | (refine r_op ?_; first | refine r_pure hT rfl rfl rfl rfl rfl rfl ?_ | refine r_load hT rfl rfl rfl rfl rfl rfl rfl rfl rfl ?_ | refine r_box rfl rfl rfl rfl rfl rfl rfl rfl rfl ?_ | refine r_store hT rfl rfl rfl rfl rfl rfl rfl rfl rfl rfl ?_ | refine r_off rfl rfl rfl rfl rfl ?_ | refine r_alloc hT rfl rfl rfl rfl rfl rfl rfl rfl rfl ?_ | refine r_lit hT rfl rfl rfl rfl rfl rfl rfl rfl rfl rfl rfl rfl rfl ?_ | refine r_off0 rfl rfl rfl rfl ?_ | refine r_storeO hT rfl rfl rfl rfl rfl rfl rfl rfl rfl rfl rfl ?_) | (refine gi_seq ?_) | (refine gi_plain ?_) | (refine gi_skip ?_) | (refine gi_block ?_) | (refine gi_inBlock ?_) | (refine gi_exit rfl ?_) | (refine gi_cnd ?_; first | refine gi_true rfl ?_ | refine gi_false rfl ?_) | (refine gi_label ?_)))
  refine r_call (isNaN_ok x) rfl rfl rfl rfl rfl rfl rfl rfl Try.func41 rfl rfl rfl pB ?_
  rintro r S1 ⟨rfl, rfl⟩
  (repeat (first | (refine r_end ?_) | (refine r_op ?_; first | refine r_pure hT rfl rfl rfl rfl rfl rfl ?_ | refine r_load hT rfl rfl rfl rfl rfl rfl rfl rfl rfl ?_ | refine r_box rfl rfl rfl rfl rfl rfl rfl rfl rfl ?_ | refine r_store hT rfl rfl rfl rfl rfl rfl rfl rfl rfl rfl ?_ | refine r_off rfl rfl rfl rfl rfl ?_ | refine r_alloc hT rfl rfl rfl rfl rfl rfl rfl rfl rfl ?_ | refine r_lit hT rfl rfl rfl rfl rfl rfl rfl rfl rfl rfl rfl rfl rfl ?_ | refine r_off0 rfl rfl rfl rfl ?_ | refine r_storeO hT rfl rfl rfl rfl rfl rfl rfl rfl rfl rfl rfl ?_) | (refine gi_seq ?_) | (refine gi_plain ?_) | (refine gi_skip ?_) | (refine gi_block ?_) | (refine gi_inBlock ?_) | (refine gi_exit rfl ?_) | (refine gi_cnd ?_; first | refine gi_true rfl ?_ | refine gi_false rfl ?_) | (refine gi_label ?_)))
  refine r_call (isNaN_ok y) rfl rfl rfl rfl rfl rfl rfl rfl Try.func41 rfl rfl rfl pB ?_
  rintro r S1 ⟨rfl, rfl⟩
  (repeat (first | (refine r_end ?_) | (refine r_op ?_; first | refine r_pure hT rfl rfl rfl rfl rfl rfl ?_ | refine r_load hT rfl rfl rfl rfl rfl rfl rfl rfl rfl ?_ | refine r_box rfl rfl rfl rfl rfl rfl rfl rfl rfl ?_ | refine r_store hT rfl rfl rfl rfl rfl rfl rfl rfl rfl rfl ?_ | refine r_off rfl rfl rfl rfl rfl ?_ | refine r_alloc hT rfl rfl rfl rfl rfl rfl rfl rfl rfl ?_ | refine r_lit hT rfl rfl rfl rfl rfl rfl rfl rfl rfl rfl rfl rfl rfl ?_ | refine r_off0 rfl rfl rfl rfl ?_ | refine r_storeO hT rfl rfl rfl rfl rfl rfl rfl rfl rfl rfl rfl ?_) | (refine gi_seq ?_) | (refine gi_plain ?_) | (refine gi_skip ?_) | (refine gi_block ?_) | (refine gi_inBlock ?_) | (refine gi_exit rfl ?_) | (refine gi_cnd ?_; first | refine gi_true rfl ?_ | refine gi_false rfl ?_) | (refine gi_label ?_)))
  refine gi_lt rfl (fun h1 => ?_) (fun h1 => ?_)
  · (repeat (first | (refine r_end ?_) | (refine r_op ?_; first | refine r_pure hT rfl rfl rfl rfl rfl rfl ?_ | refine r_load hT rfl rfl rfl rfl rfl rfl rfl rfl rfl ?_ | refine r_box rfl rfl rfl rfl rfl rfl rfl rfl rfl ?_ | refine r_store hT rfl rfl rfl rfl rfl rfl rfl rfl rfl rfl ?_ | refine r_off rfl rfl rfl rfl rfl ?_ | refine r_alloc hT rfl rfl rfl rfl rfl rfl rfl rfl rfl ?_ | refine r_lit hT rfl rfl rfl rfl rfl rfl rfl rfl rfl rfl rfl rfl rfl ?_ | refine r_off0 rfl rfl rfl rfl ?_ | refine r_storeO hT rfl rfl rfl rfl rfl rfl rfl rfl rfl rfl rfl ?_) | (refine gi_seq ?_) | (refine gi_plain ?_) | (refine gi_skip ?_) | (refine gi_block ?_) | (refine gi_inBlock ?_) | (refine gi_exit rfl ?_) | (refine gi_cnd ?_; first | refine gi_true rfl ?_ | refine gi_false rfl ?_) | (refine gi_label ?_)))
    refine gi_retW hT Try.func32 rfl rfl [] rfl rfl rfl rfl ?_
    exact ⟨by simp [cmp3, h1], rfl⟩
  · (repeat (first | (refine r_end ?_) | (refine r_op ?_; first | refine r_pure hT rfl rfl rfl rfl rfl rfl ?_ | refine r_load hT rfl rfl rfl rfl rfl rfl rfl rfl rfl ?_ | refine r_box rfl rfl rfl rfl rfl rfl rfl rfl rfl ?_ | refine r_store hT rfl rfl rfl rfl rfl rfl rfl rfl rfl rfl ?_ | refine r_off rfl rfl rfl rfl rfl ?_ | refine r_alloc hT rfl rfl rfl rfl rfl rfl rfl rfl rfl ?_ | refine r_lit hT rfl rfl rfl rfl rfl rfl rfl rfl rfl rfl rfl rfl rfl ?_ | refine r_off0 rfl rfl rfl rfl ?_ | refine r_storeO hT rfl rfl rfl rfl rfl rfl rfl rfl rfl rfl rfl ?_) | (refine gi_seq ?_) | (refine gi_plain ?_) | (refine gi_skip ?_) | (refine gi_block ?_) | (refine gi_inBlock ?_) | (refine gi_exit rfl ?_) | (refine gi_cnd ?_; first | refine gi_true rfl ?_ | refine gi_false rfl ?_) | (refine gi_label ?_)))
    refine gi_lt rfl (fun h2 => ?_) (fun h2 => ?_)
    · (repeat (first | (refine r_end ?_) | (refine r_op ?_; first | refine r_pure hT rfl rfl rfl rfl rfl rfl ?_ | refine r_load hT rfl rfl rfl rfl rfl rfl rfl rfl rfl ?_ | refine r_box rfl rfl rfl rfl rfl rfl rfl rfl rfl ?_ | refine r_store hT rfl rfl rfl rfl rfl rfl rfl rfl rfl rfl ?_ | refine r_off rfl rfl rfl rfl rfl ?_ | refine r_alloc hT rfl rfl rfl rfl rfl rfl rfl rfl rfl ?_ | refine r_lit hT rfl rfl rfl rfl rfl rfl rfl rfl rfl rfl rfl rfl rfl ?_ | refine r_off0 rfl rfl rfl rfl ?_ | refine r_storeO hT rfl rfl rfl rfl rfl rfl rfl rfl rfl rfl rfl ?_) | (refine gi_seq ?_) | (refine gi_plain ?_) | (refine gi_skip ?_) | (refine gi_block ?_) | (refine gi_inBlock ?_) | (refine gi_exit rfl ?_) | (refine gi_cnd ?_; first | refine gi_true rfl ?_ | refine gi_false rfl ?_) | (refine gi_label ?_)))
      refine gi_retW hT Try.func32 rfl rfl [] rfl rfl rfl rfl ?_
      exact ⟨by simp [cmp3, h1, h2], rfl⟩
    · (repeat (first | (refine r_end ?_) | (refine r_op ?_; first | refine r_pure hT rfl rfl rfl rfl rfl rfl ?_ | refine r_load hT rfl rfl rfl rfl rfl rfl rfl rfl rfl ?_ | refine r_box rfl rfl rfl rfl rfl rfl rfl rfl rfl ?_ | refine r_store hT rfl rfl rfl rfl rfl rfl rfl rfl rfl rfl ?_ | refine r_off rfl rfl rfl rfl rfl ?_ | refine r_alloc hT rfl rfl rfl rfl rfl rfl rfl rfl rfl ?_ | refine r_lit hT rfl rfl rfl rfl rfl rfl rfl rfl rfl rfl rfl rfl rfl ?_ | refine r_off0 rfl rfl rfl rfl ?_ | refine r_storeO hT rfl rfl rfl rfl rfl rfl rfl rfl rfl rfl rfl ?_) | (refine gi_seq ?_) | (refine gi_plain ?_) | (refine gi_skip ?_) | (refine gi_block ?_) | (refine gi_inBlock ?_) | (refine gi_exit rfl ?_) | (refine gi_cnd ?_; first | refine gi_true rfl ?_ | refine gi_false rfl ?_) | (refine gi_label ?_)))
      refine gi_retW hT Try.func32 rfl rfl [] rfl rfl rfl rfl ?_
      exact ⟨by simp [cmp3, h1, h2], rfl⟩
end Go.Proofs.Ytpkkaadflbppcaa.Kt
