/- Part of the proofs of this seat's statements: what the functions compute. No condition. -/
import Derived.Test.YtmocggibcniggaaC18G
set_option linter.unusedSimpArgs false
set_option linter.unusedVariables false
namespace Go.Proofs.Ytmocggibcniggaa.Kt
open Go Kw Go.Proofs
attribute [local irreducible] Kw.GI Kw.GR Kw.FnR Kw.FnX
set_option maxHeartbeats 8000000
set_option maxRecDepth 100000
/-- How far to the left. -/
def nM (b : Int) : Int := 32 - (if 0 ≤ b then (if b ≤ 32 then b else 32) else 0)
theorem nM_rng (b : Int) : 0 ≤ nM b ∧ nM b ≤ 32 := by
  unfold nM; split
  · split <;> omega
  · omega
@[irreducible] def maskF (b : Int) : Int := Go.bits .and .i64 (wr .i64 (4294967295 * 2 ^ (min (nM b).toNat 64))) 4294967295
@[irreducible] def netF (a b : Int) : Int := Go.bits .and .i64 (Go.bits .and .i64 a 4294967295) (maskF b)
theorem mm_nM (b : Int) : mm true 0 (mm false b 32) = 32 - nM b := by
  unfold mm nM
  simp only
  split <;> split <;> (try split) <;> omega
theorem wr_u64 (n : Int) : wr .u64 n = n % 18446744073709551616 := by
  rw [wr_eq]
  simp [IntKind.wrap, IntKind.bits, IntKind.signed]
theorem Mask_ok (b : Int) : FnR Try.prog 25 [I b] (RI (maskF b)) := by
  obtain ⟨g1, g2⟩ := nM_rng b
  refine fnR_intro (T := TT) (n := 12) Try.func25 rfl rfl rfl (fun w Z => ?_)
  (repeat (first | refine r_end ?_ | (refine r_op ?_; refine r_pure hT rfl rfl rfl rfl rfl rfl ?_) | refine gi_seq ?_ | refine gi_plain ?_))
  refine r_turn (d := 9) (y := .r (.v (.int .u64 (nM b)))) rfl ?_ ?_
  · rw [mm_nM]
    rw [show (32 : Int) - (32 - nM b) = nM b by omega, wr_i64 (by omega) (by omega), wr_u64, Int.emod_eq_of_lt (by omega) (by omega)]
  refine r_shl rfl rfl rfl rfl rfl rfl rfl rfl g1 rfl ?_
  (repeat (first | refine r_end ?_ | (refine r_op ?_; refine r_pure hT rfl rfl rfl rfl rfl rfl ?_)))
  refine gi_retW hT Try.func25 rfl rfl [] rfl rfl rfl rfl ?_
  refine ⟨?_, rfl⟩
  unfold maskF
  rfl
theorem Net_ok (a b : Int) : FnR Try.prog 27 [I a, I b] (RI (netF a b)) := by
  refine fnR_intro (T := TT) (n := 10) Try.func27 rfl rfl rfl (fun w Z => ?_)
  (repeat (first | refine r_end ?_ | (refine r_op ?_; refine r_pure hT rfl rfl rfl rfl rfl rfl ?_) | refine gi_seq ?_ | refine gi_plain ?_))
  refine r_call (Mask_ok b) rfl rfl rfl rfl rfl rfl rfl rfl Try.func25 rfl rfl rfl pI ?_
  rintro r S1 ⟨rfl, rfl⟩
  (repeat (first | refine r_end ?_ | (refine r_op ?_; refine r_pure hT rfl rfl rfl rfl rfl rfl ?_)))
  refine gi_retW hT Try.func27 rfl rfl [] rfl rfl rfl rfl ?_
  refine ⟨?_, rfl⟩
  unfold netF
  rfl
def bitsF (m : Int) : Int := match (List.range 33).find? (fun i => decide (maskF (i : Nat) = m)) with
  | some i => (i : Nat)
  | none => -1
theorem find_range {p : Nat → Bool} {n j : Nat} (h : ∀ t, t < j → p t = false) (hj : j < n) (hp : p j = true) : (List.range n).find? p = some j := by
  rw [List.find?_range_eq_some]
  exact ⟨hp, List.mem_range.2 hj, fun t ht => by rw [h t ht]; rfl⟩
theorem find_range_none {p : Nat → Bool} {n : Nat} (h : ∀ t, t < n → p t = false) : (List.range n).find? p = none := by
  rw [List.find?_eq_none]
  intro t ht
  rw [h t (List.mem_range.1 ht)]; decide
theorem Bits_ok (m : Int) : FnR Try.prog 47 [I m] (RI (bitsF m)) := by
  refine fnR_intro (T := TT) (n := 13) Try.func47 rfl rfl rfl (fun w Z => ?_)
  (repeat (first | refine r_end ?_ | (refine r_op ?_; refine r_pure hT rfl rfl rfl rfl rfl rfl ?_) | refine gi_seq ?_ | refine gi_plain ?_ | refine gi_block ?_))
  refine gi_loop (σ := Nat) (fun j => [(3, I j), (0, I m)]) (fun _ => []) (fun _ => []) (fun j => j ≤ 33 ∧ ∀ t, t < j → decide (maskF (t : Nat) = m) = false) (fun j => 33 - j) 0 ⟨Nat.zero_le _, fun t ht => absurd ht (Nat.not_lt_zero _)⟩ ⟨rfl, rfl, trivial⟩ trivial trivial (fun _ => rfl) (fun j hj next => ?_)
  obtain ⟨hj, hn⟩ := hj
  (repeat (first | refine r_end ?_ | (refine r_op ?_; refine r_pure hT rfl rfl rfl rfl rfl rfl ?_) | refine gi_seq ?_ | refine gi_plain ?_))
  refine gi_le rfl (fun h3 => ?_) (fun h3 => ?_)
  · (repeat (first | (refine r_op ?_; refine r_pure hT rfl rfl rfl rfl rfl rfl ?_) | refine gi_seq ?_ | refine gi_plain ?_ | refine gi_skip ?_ | refine gi_block ?_))
    refine r_call (Mask_ok j) rfl rfl rfl rfl rfl rfl rfl rfl Try.func25 rfl rfl rfl pI ?_
    rintro r S1 ⟨rfl, rfl⟩
    (repeat (first | refine r_end ?_ | (refine r_op ?_; refine r_pure hT rfl rfl rfl rfl rfl rfl ?_)))
    refine gi_eq rfl (fun h4 => ?_) (fun h4 => ?_)
    · (repeat (first | refine r_end ?_ | (refine r_op ?_; refine r_pure hT rfl rfl rfl rfl rfl rfl ?_) | refine gi_seq ?_ | refine gi_plain ?_))
      refine gi_retW hT Try.func47 rfl rfl [] rfl rfl rfl rfl ?_
      refine ⟨?_, rfl⟩
      unfold bitsF
      rw [find_range hn (by omega) (decide_eq_true h4)]
    · (repeat (first | refine r_end ?_ | (refine r_op ?_; refine r_pure hT rfl rfl rfl rfl rfl rfl ?_) | refine gi_plain ?_ | refine gi_skip ?_ | refine gi_inBlock ?_))
      refine next (j + 1) _ _ _ ⟨by omega, fun t ht => ?_⟩ (by omega) ⟨?_, rfl, trivial⟩ trivial trivial
      · rcases Nat.lt_succ_iff_lt_or_eq.1 ht with ht | rfl
        · exact hn t ht
        · exact decide_eq_false h4
      · show some (I (wr .i64 ((j : Int) + 1))) = _
        rw [wr_i64 (by omega) (by omega)]
        simp
  · (repeat (first | refine r_end ?_ | (refine r_op ?_; refine r_pure hT rfl rfl rfl rfl rfl rfl ?_) | refine gi_seq ?_ | refine gi_plain ?_ | refine gi_exit rfl ?_))
    refine gi_retW hT Try.func47 rfl rfl [] rfl rfl rfl rfl ?_
    refine ⟨?_, rfl⟩
    unfold bitsF
    rw [find_range_none (fun t ht => hn t (by omega))]
end Go.Proofs.Ytmocggibcniggaa.Kt
