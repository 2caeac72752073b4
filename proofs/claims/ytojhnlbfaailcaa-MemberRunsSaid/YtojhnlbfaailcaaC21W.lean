/- Part of the proofs of this seat's statements: what the functions compute. No condition. -/
import Derived.Test.YtojhnlbfaailcaaC10P
import Derived.Test.YtojhnlbfaailcaaK3
import Derived.Test.YtojhnlbfaailcaaProg
set_option linter.unusedSimpArgs false
set_option linter.unusedVariables false
namespace Go.Proofs.Ytojhnlbfaailcaa.Kt
open Go Kw Go.Proofs
attribute [local irreducible] Kw.GI Kw.GR Kw.FnR
theorem y3 : tyOf Try.prog 3 = some ⟨false, 1, 8, [.int .i64 0], [], none, some .i64, false, false, false⟩ := by kernel_rfl
theorem y4 : tyOf Try.prog 4 = some ⟨false, 1, 1, [.bool false], [], none, none, true, false, false⟩ := by kernel_rfl
theorem y5 : tyOf Try.prog 5 = some ⟨false, 1, 1, [.int .u8 0], [], none, some .u8, false, false, false⟩ := by kernel_rfl
theorem y22 : tyOf Try.prog 22 = some ⟨false, 1, 2, [.int .u16 0], [], none, some .u16, false, false, false⟩ := by kernel_rfl
theorem y23 : tyOf Try.prog 23 = some ⟨false, 1, 24, [.slice none 0 0], [], some 5, none, false, false, false⟩ := by kernel_rfl
theorem y25 : tyOf Try.prog 25 = some ⟨false, 1, 8, [.pointer none], [], none, none, false, true, false⟩ := by kernel_rfl
theorem y28 : tyOf Try.prog 28 = some ⟨false, 1, 24, [.slice none 0 0], [], some 3, none, false, false, false⟩ := by kernel_rfl
theorem y39 : tyOf Try.prog 39 = some ⟨false, 1, 24, [.slice none 0 0], [], some 45, none, false, false, false⟩ := by kernel_rfl
theorem y40 : tyOf Try.prog 40 = some ⟨false, 1, 8, [.pointer none], [], none, none, false, true, false⟩ := by kernel_rfl
theorem y41 : tyOf Try.prog 41 = some ⟨false, 1, 24, [.slice none 0 0], [], some 60, none, false, false, false⟩ := by kernel_rfl
theorem y43 : tyOf Try.prog 43 = some ⟨true, 1, 24, [.slice none 0 0], [(0,1,false)], none, none, false, false, false⟩ := by kernel_rfl
theorem y45 : tyOf Try.prog 45 = some ⟨true, 5, 32, [.int .i64 0, .int .i64 0, .int .i64 0, .bool false, .bool false], [(0,1,false), (1,1,false), (2,1,false), (3,1,false), (4,1,false)], none, none, false, false, true⟩ := by kernel_rfl
theorem y49 : tyOf Try.prog 49 = some ⟨false, 1, 24, [.slice none 0 0], [], some 56, none, false, false, false⟩ := by kernel_rfl
theorem y51 : tyOf Try.prog 51 = some ⟨true, 1, 24, [.slice none 0 0], [(0,1,false)], none, none, false, false, false⟩ := by kernel_rfl
theorem y56 : tyOf Try.prog 56 = some ⟨true, 5, 40, [.int .i64 0, .int .i64 0, .int .i64 0, .int .i64 0, .int .i64 0], [(0,1,false), (1,1,false), (2,1,false), (3,1,false), (4,1,false)], none, none, false, false, true⟩ := by kernel_rfl
theorem y60 : tyOf Try.prog 60 = some ⟨true, 5, 40, [.int .i64 0, .int .i64 0, .int .i64 0, .int .i64 0, .int .i64 0], [(0,1,false), (1,1,false), (2,1,false), (3,1,false), (4,1,false)], none, none, false, false, true⟩ := by kernel_rfl
theorem y66 : tyOf Try.prog 66 = some ⟨false, 1, 8, [.int .u64 0], [], none, some .u64, false, false, false⟩ := by kernel_rfl
def TT : Tab := [(3, ⟨false, 1, 8, [.int .i64 0], [], none, some .i64, false, false, false⟩), (4, ⟨false, 1, 1, [.bool false], [], none, none, true, false, false⟩), (5, ⟨false, 1, 1, [.int .u8 0], [], none, some .u8, false, false, false⟩), (22, ⟨false, 1, 2, [.int .u16 0], [], none, some .u16, false, false, false⟩), (23, ⟨false, 1, 24, [.slice none 0 0], [], some 5, none, false, false, false⟩), (25, ⟨false, 1, 8, [.pointer none], [], none, none, false, true, false⟩), (28, ⟨false, 1, 24, [.slice none 0 0], [], some 3, none, false, false, false⟩), (39, ⟨false, 1, 24, [.slice none 0 0], [], some 45, none, false, false, false⟩), (40, ⟨false, 1, 8, [.pointer none], [], none, none, false, true, false⟩), (41, ⟨false, 1, 24, [.slice none 0 0], [], some 60, none, false, false, false⟩), (43, ⟨true, 1, 24, [.slice none 0 0], [(0,1,false)], none, none, false, false, false⟩), (45, ⟨true, 5, 32, [.int .i64 0, .int .i64 0, .int .i64 0, .bool false, .bool false], [(0,1,false), (1,1,false), (2,1,false), (3,1,false), (4,1,false)], none, none, false, false, true⟩), (49, ⟨false, 1, 24, [.slice none 0 0], [], some 56, none, false, false, false⟩), (51, ⟨true, 1, 24, [.slice none 0 0], [(0,1,false)], none, none, false, false, false⟩), (56, ⟨true, 5, 40, [.int .i64 0, .int .i64 0, .int .i64 0, .int .i64 0, .int .i64 0], [(0,1,false), (1,1,false), (2,1,false), (3,1,false), (4,1,false)], none, none, false, false, true⟩), (60, ⟨true, 5, 40, [.int .i64 0, .int .i64 0, .int .i64 0, .int .i64 0, .int .i64 0], [(0,1,false), (1,1,false), (2,1,false), (3,1,false), (4,1,false)], none, none, false, false, true⟩), (66, ⟨false, 1, 8, [.int .u64 0], [], none, some .u64, false, false, false⟩)]
theorem hT : TabOk Try.prog TT := .cons y3 (.cons y4 (.cons y5 (.cons y22 (.cons y23 (.cons y25 (.cons y28 (.cons y39 (.cons y40 (.cons y41 (.cons y43 (.cons y45 (.cons y49 (.cons y51 (.cons y56 (.cons y60 (.cons y66 (.nil _)))))))))))))))))
theorem hm : Try.prog.follows .mixedOrders = true := by kernel_rfl
abbrev I (n : Int) : AV := .r (.v (.int .i64 n))
abbrev Bo (n : Bool) : AV := .r (.v (.bool n))
theorem pI {x : Int} : ∀ r S1, (r = I x ∧ S1 = []) → plainA r = true ∧ PlainS S1 := by
  rintro r S ⟨rfl, rfl⟩
  exact ⟨rfl, PlainS.nil⟩
theorem pB {x : Bool} : ∀ r S1, (r = Bo x ∧ S1 = []) → plainA r = true ∧ PlainS S1 := by
  rintro r S ⟨rfl, rfl⟩
  exact ⟨rfl, PlainS.nil⟩
abbrev RI (x : Int) : AV → Sp → Prop := fun r S => r = I x ∧ S = []
abbrev RB (x : Bool) : AV → Sp → Prop := fun r S => r = Bo x ∧ S = []
theorem isNaN_ok (x : Int) : FnR Try.prog 33 [I x] (RB false) := by
  refine fnR_intro (T := TT) (n := 6) Try.func33 rfl rfl rfl (fun w Z => ?_)
  (repeat (first | (refine r_end ?_) | (refine r_op ?_; first | refine r_pure hT rfl rfl rfl rfl rfl rfl ?_ | refine r_load hT rfl rfl rfl rfl rfl rfl rfl rfl rfl ?_ | refine r_box rfl rfl rfl rfl rfl rfl rfl rfl rfl ?_ | refine r_store hT rfl rfl rfl rfl rfl rfl rfl rfl rfl rfl ?_ | refine r_off rfl rfl rfl rfl rfl ?_ | refine r_alloc hT rfl rfl rfl rfl rfl rfl rfl rfl rfl ?_ | refine r_lit hT rfl rfl rfl rfl rfl rfl rfl rfl rfl rfl rfl rfl rfl ?_ | refine r_off0 rfl rfl rfl rfl ?_) | (refine gi_seq ?_) | (refine gi_plain ?_) | (refine gi_skip ?_) | (refine gi_block ?_) | (refine gi_inBlock ?_) | (refine gi_exit rfl ?_) | (refine gi_cnd ?_; first | refine gi_true rfl ?_ | refine gi_false rfl ?_) | (refine gi_label ?_)))
  refine gi_retW hT Try.func33 rfl rfl [] rfl rfl rfl rfl ?_
  exact ⟨by simp [notB_eq, eqB_eq], rfl⟩
theorem Compare_ok (x y : Int) : FnR Try.prog 30 [I x, I y] (RI (cmp3 x y)) := by
  refine fnR_intro (T := TT) (n := 20) Try.func30 rfl rfl rfl (fun w Z => ?_)
  (repeat (first | (refine r_end ?_) | (refine r_op ?_; first | refine r_pure hT rfl rfl rfl rfl rfl rfl ?_ | refine r_load hT rfl rfl rfl rfl rfl rfl rfl rfl rfl ?_ | refine r_box rfl rfl rfl rfl rfl rfl rfl rfl rfl ?_ | refine r_store hT rfl rfl rfl rfl rfl rfl rfl rfl rfl rfl ?_ | refine r_off rfl rfl rfl rfl rfl ?_ | refine r_alloc hT rfl rfl rfl rfl rfl rfl rfl rfl rfl ?_ | refine r_lit hT rfl rfl rfl rfl rfl rfl rfl rfl rfl rfl rfl rfl rfl ?_ | refine r_off0 rfl rfl rfl rfl ?_) | (refine gi_seq ?_) | (refine gi_plain ?_) | (refine gi_skip ?_) | (refine gi_block ?_) | (refine gi_inBlock ?_) | (refine gi_exit rfl ?_) | (refine gi_cnd ?_; first | refine gi_true rfl ?_ | refine gi_false rfl ?_) | (refine gi_label ?_)))
  refine r_call (isNaN_ok x) rfl rfl rfl rfl rfl rfl rfl rfl Try.func33 rfl rfl rfl pB ?_
  rintro r S1 ⟨rfl, rfl⟩
  (repeat (first | (refine r_end ?_) | (refine r_op ?_; first | refine r_pure hT rfl rfl rfl rfl rfl rfl ?_ | refine r_load hT rfl rfl rfl rfl rfl rfl rfl rfl rfl ?_ | refine r_box rfl rfl rfl rfl rfl rfl rfl rfl rfl ?_ | refine r_store hT rfl rfl rfl rfl rfl rfl rfl rfl rfl rfl ?_ | refine r_off rfl rfl rfl rfl rfl ?_ | refine r_alloc hT rfl rfl rfl rfl rfl rfl rfl rfl rfl ?_ | refine r_lit hT rfl rfl rfl rfl rfl rfl rfl rfl rfl rfl rfl rfl rfl ?_ | refine r_off0 rfl rfl rfl rfl ?_) | (refine gi_seq ?_) | (refine gi_plain ?_) | (refine gi_skip ?_) | (refine gi_block ?_) | (refine gi_inBlock ?_) | (refine gi_exit rfl ?_) | (refine gi_cnd ?_; first | refine gi_true rfl ?_ | refine gi_false rfl ?_) | (refine gi_label ?_)))
  refine r_call (isNaN_ok y) rfl rfl rfl rfl rfl rfl rfl rfl Try.func33 rfl rfl rfl pB ?_
  rintro r S1 ⟨rfl, rfl⟩
  (repeat (first | (refine r_end ?_) | (refine r_op ?_; first | refine r_pure hT rfl rfl rfl rfl rfl rfl ?_ | refine r_load hT rfl rfl rfl rfl rfl rfl rfl rfl rfl ?_ | refine r_box rfl rfl rfl rfl rfl rfl rfl rfl rfl ?_ | refine r_store hT rfl rfl rfl rfl rfl rfl rfl rfl rfl rfl ?_ | refine r_off rfl rfl rfl rfl rfl ?_ | refine r_alloc hT rfl rfl rfl rfl rfl rfl rfl rfl rfl ?_ | refine r_lit hT rfl rfl rfl rfl rfl rfl rfl rfl rfl rfl rfl rfl rfl ?_ | refine r_off0 rfl rfl rfl rfl ?_) | (refine gi_seq ?_) | (refine gi_plain ?_) | (refine gi_skip ?_) | (refine gi_block ?_) | (refine gi_inBlock ?_) | (refine gi_exit rfl ?_) | (refine gi_cnd ?_; first | refine gi_true rfl ?_ | refine gi_false rfl ?_) | (refine gi_label ?_)))
  refine gi_lt rfl (fun h1 => ?_) (fun h1 => ?_)
  · (repeat (first | (refine r_end ?_) | (refine r_op ?_; first | refine r_pure hT rfl rfl rfl rfl rfl rfl ?_ | refine r_load hT rfl rfl rfl rfl rfl rfl rfl rfl rfl ?_ | refine r_box rfl rfl rfl rfl rfl rfl rfl rfl rfl ?_ | refine r_store hT rfl rfl rfl rfl rfl rfl rfl rfl rfl rfl ?_ | refine r_off rfl rfl rfl rfl rfl ?_ | refine r_alloc hT rfl rfl rfl rfl rfl rfl rfl rfl rfl ?_ | refine r_lit hT rfl rfl rfl rfl rfl rfl rfl rfl rfl rfl rfl rfl rfl ?_ | refine r_off0 rfl rfl rfl rfl ?_) | (refine gi_seq ?_) | (refine gi_plain ?_) | (refine gi_skip ?_) | (refine gi_block ?_) | (refine gi_inBlock ?_) | (refine gi_exit rfl ?_) | (refine gi_cnd ?_; first | refine gi_true rfl ?_ | refine gi_false rfl ?_) | (refine gi_label ?_)))
    refine gi_retW hT Try.func30 rfl rfl [] rfl rfl rfl rfl ?_
    exact ⟨by simp [cmp3, h1], rfl⟩
  · (repeat (first | (refine r_end ?_) | (refine r_op ?_; first | refine r_pure hT rfl rfl rfl rfl rfl rfl ?_ | refine r_load hT rfl rfl rfl rfl rfl rfl rfl rfl rfl ?_ | refine r_box rfl rfl rfl rfl rfl rfl rfl rfl rfl ?_ | refine r_store hT rfl rfl rfl rfl rfl rfl rfl rfl rfl rfl ?_ | refine r_off rfl rfl rfl rfl rfl ?_ | refine r_alloc hT rfl rfl rfl rfl rfl rfl rfl rfl rfl ?_ | refine r_lit hT rfl rfl rfl rfl rfl rfl rfl rfl rfl rfl rfl rfl rfl ?_ | refine r_off0 rfl rfl rfl rfl ?_) | (refine gi_seq ?_) | (refine gi_plain ?_) | (refine gi_skip ?_) | (refine gi_block ?_) | (refine gi_inBlock ?_) | (refine gi_exit rfl ?_) | (refine gi_cnd ?_; first | refine gi_true rfl ?_ | refine gi_false rfl ?_) | (refine gi_label ?_)))
    refine gi_lt rfl (fun h2 => ?_) (fun h2 => ?_)
    · (repeat (first | (refine r_end ?_) | (refine r_op ?_; first | refine r_pure hT rfl rfl rfl rfl rfl rfl ?_ | refine r_load hT rfl rfl rfl rfl rfl rfl rfl rfl rfl ?_ | refine r_box rfl rfl rfl rfl rfl rfl rfl rfl rfl ?_ | refine r_store hT rfl rfl rfl rfl rfl rfl rfl rfl rfl rfl ?_ | refine r_off rfl rfl rfl rfl rfl ?_ | refine r_alloc hT rfl rfl rfl rfl rfl rfl rfl rfl rfl ?_ | refine r_lit hT rfl rfl rfl rfl rfl rfl rfl rfl rfl rfl rfl rfl rfl ?_ | refine r_off0 rfl rfl rfl rfl ?_) | (refine gi_seq ?_) | (refine gi_plain ?_) | (refine gi_skip ?_) | (refine gi_block ?_) | (refine gi_inBlock ?_) | (refine gi_exit rfl ?_) | (refine gi_cnd ?_; first | refine gi_true rfl ?_ | refine gi_false rfl ?_) | (refine gi_label ?_)))
      refine gi_retW hT Try.func30 rfl rfl [] rfl rfl rfl rfl ?_
      exact ⟨by simp [cmp3, h1, h2], rfl⟩
    · (repeat (first | (refine r_end ?_) | (refine r_op ?_; first | refine r_pure hT rfl rfl rfl rfl rfl rfl ?_ | refine r_load hT rfl rfl rfl rfl rfl rfl rfl rfl rfl ?_ | refine r_box rfl rfl rfl rfl rfl rfl rfl rfl rfl ?_ | refine r_store hT rfl rfl rfl rfl rfl rfl rfl rfl rfl rfl ?_ | refine r_off rfl rfl rfl rfl rfl ?_ | refine r_alloc hT rfl rfl rfl rfl rfl rfl rfl rfl rfl ?_ | refine r_lit hT rfl rfl rfl rfl rfl rfl rfl rfl rfl rfl rfl rfl rfl ?_ | refine r_off0 rfl rfl rfl rfl ?_) | (refine gi_seq ?_) | (refine gi_plain ?_) | (refine gi_skip ?_) | (refine gi_block ?_) | (refine gi_inBlock ?_) | (refine gi_exit rfl ?_) | (refine gi_cnd ?_; first | refine gi_true rfl ?_ | refine gi_false rfl ?_) | (refine gi_label ?_)))
      refine gi_retW hT Try.func30 rfl rfl [] rfl rfl rfl rfl ?_
      exact ⟨by simp [cmp3, h1, h2], rfl⟩
abbrev rsI (xs : List Int) : AV := .r (.rs 1 (xs.map fun x => [.v (.int .i64 x)]))
end Go.Proofs.Ytojhnlbfaailcaa.Kt
