/- Part of the proofs of this seat's statements: what the functions compute. No condition. -/
import Derived.Test.YtmocggibcniggaaC23O
set_option linter.unusedSimpArgs false
set_option linter.unusedVariables false
namespace Go.Proofs.Ytmocggibcniggaa.Kt
open Go Kw Go.Proofs
set_option maxHeartbeats 4000000
set_option maxRecDepth 100000
/-! ### both sides' addresses are one -/
theorem and_i64 (a b : Nat) (ha : a < 9223372036854775808) (hb : b < 9223372036854775808) : Go.bits .and .i64 (a : Int) (b : Int) = ((a &&& b : Nat) : Int) := by
  have hx : a &&& b < 2 ^ 63 := Nat.and_lt_two_pow _ (by omega)
  have h1 : (BitVec.ofInt 64 (a : Int)).toNat = a := by
    rw [BitVec.ofInt_natCast, BitVec.toNat_ofNat]; exact Nat.mod_eq_of_lt (by omega)
  have h2 : (BitVec.ofInt 64 (b : Int)).toNat = b := by
    rw [BitVec.ofInt_natCast, BitVec.toNat_ofNat]; exact Nat.mod_eq_of_lt (by omega)
  show IntKind.i64.wrap ((BitVec.ofInt 64 (a : Int) &&& BitVec.ofInt 64 (b : Int)).toNat : Int) = _
  rw [BitVec.toNat_and, h1, h2, ← wr_eq, wr_i64 (by omega) (by omega)]
def gM (n : Nat) : Int := Go.bits .and .i64 (wr .i64 (4294967295 * 2 ^ (min n 64))) 4294967295
theorem gM_all : (List.range 33).all (fun n => decide (0 ≤ gM n) && decide (gM n ≤ 4294967295)) = true := by kernel_rfl
theorem mask_b (b : Int) : 0 ≤ maskF b ∧ maskF b ≤ 4294967295 := by
  obtain ⟨h1, h2⟩ := nM_rng b
  have h3 : maskF b = gM (nM b).toNat := by unfold maskF gM; rfl
  have h4 := List.all_eq_true.1 gM_all (nM b).toNat (List.mem_range.2 (by omega))
  rw [Bool.and_eq_true] at h4
  rw [h3]
  exact ⟨of_decide_eq_true h4.1, of_decide_eq_true h4.2⟩
theorem and_all {a : Int} (h0 : 0 ≤ a) (h1 : a ≤ 4294967295) : Go.bits .and .i64 a 4294967295 = a := by
  obtain ⟨n, rfl⟩ : ∃ n : Nat, a = n := ⟨a.toNat, by omega⟩
  have := and_i64 n 4294967295 (by omega) (by omega)
  rw [show ((4294967295 : Nat) : Int) = 4294967295 from rfl] at this
  rw [this]
  have h : n &&& (2 ^ 32 - 1) = n % 2 ^ 32 := Nat.and_two_pow_sub_one_eq_mod n 32
  rw [show (2 ^ 32 - 1 : Nat) = 4294967295 by decide, show (2 ^ 32 : Nat) = 4294967296 by decide] at h
  rw [h, Nat.mod_eq_of_lt (by omega)]
theorem net_same {a : Int} (b : Int) (h0 : 0 ≤ a) (h1 : a ≤ 4294967295) : netF a b = pnetF a b := by
  unfold netF pnetF
  rw [and_all h0 h1]
theorem okA_b {a : Int} (h : okA a = true) : 0 ≤ a ∧ a ≤ 4294967295 := by
  unfold okA at h
  rw [Bool.and_eq_true, leB_eq, leB_eq] at h
  exact ⟨of_decide_eq_true h.1, of_decide_eq_true h.2⟩
theorem in_same (a p b : Int) : inR a p b = inP a p b := by
  unfold inR inP
  cases ha : okA a with
  | false => rw [Bool.false_and, Bool.false_and]
  | true =>
    cases hp : okA p with
    | false => rw [Bool.true_and, Bool.true_and, Bool.false_and, Bool.false_and]
    | true =>
      rw [net_same b (okA_b ha).1 (okA_b ha).2, net_same b (okA_b hp).1 (okA_b hp).2]
theorem in_b {a p b : Int} (h : inP a p b = true) : 0 ≤ b := by
  unfold inP at h
  rw [Bool.and_eq_true, Bool.and_eq_true, Bool.and_eq_true, leB_eq] at h
  exact of_decide_eq_true h.2.2.1
/-- Nothing yet, or the same. -/
def Bth (s z : Src) : Prop := (s = z0 ∧ z = z1) ∨ (s = z ∧ z.ok = true ∧ 0 ≤ z.b)
theorem Bth.sn {a : Int} {s z : Src} (h : Bth s z) (x : Sn) : Bth (sn1 a s x) (xSn a z x) := by
  unfold sn1 xSn
  rw [in_same]
  by_cases hi : inP a x.p x.b = true
  · have hb := in_b hi
    rcases h with ⟨rfl, rfl⟩ | ⟨rfl, h1, h2⟩
    · rw [if_pos ⟨hi, .inl rfl⟩, if_pos ⟨hi, show (-1 : Int) < x.b by omega⟩]
      exact .inr ⟨rfl, rfl, hb⟩
    · by_cases hl : s.b < x.b
      · rw [if_pos ⟨hi, .inr hl⟩, if_pos ⟨hi, hl⟩]
        exact .inr ⟨rfl, rfl, hb⟩
      · rw [if_neg (fun hh => by rcases hh.2 with hh | hh; (rw [h1] at hh; cases hh); exact hl hh), if_neg (fun hh => hl hh.2)]
        exact .inr ⟨rfl, h1, h2⟩
  · rw [if_neg (fun hh => hi hh.1), if_neg (fun hh => hi hh.1)]
    exact h
theorem Bth.sb {a : Int} {s z : Src} (h : Bth s z) (x : Sb) : Bth (sb1 a s x) (xSb a z x) := by
  unfold sb1 xSb
  rw [in_same]
  by_cases hi : inP a x.p x.b = true
  · have hb := in_b hi
    rcases h with ⟨rfl, rfl⟩ | ⟨rfl, h1, h2⟩
    · rw [if_pos ⟨hi, .inl rfl⟩, if_pos ⟨hi, show (-1 : Int) < x.b by omega⟩]
      exact .inr ⟨rfl, rfl, hb⟩
    · by_cases hl : s.b < x.b
      · rw [if_pos ⟨hi, .inr hl⟩, if_pos ⟨hi, hl⟩]
        exact .inr ⟨rfl, rfl, hb⟩
      · rw [if_neg (fun hh => by rcases hh.2 with hh | hh; (rw [h1] at hh; cases hh); exact hl hh), if_neg (fun hh => hl hh.2)]
        exact .inr ⟨rfl, h1, h2⟩
  · rw [if_neg (fun hh => hi hh.1), if_neg (fun hh => hi hh.1)]
    exact h
theorem Bth.fold {α : Type} {f g : Src → α → Src} (hfg : ∀ s z x, Bth s z → Bth (f s x) (g z x)) : ∀ (l : List α) (s z : Src), Bth s z → Bth (l.foldl f s) (l.foldl g z)
  | [], _, _, h => h
  | x :: l, s, z, h => by
    rw [List.foldl_cons, List.foldl_cons]
    exact Bth.fold hfg l _ _ (hfg s z x h)
theorem src_bth (a : Int) (m : Mp) : Bth (srcF a m) (xrcF a m) :=
  Bth.fold (fun _ _ x h => h.sb x) _ _ _ (Bth.fold (fun _ _ x h => h.sn x) _ _ _ (.inl ⟨rfl, rfl⟩))
/-- The two sides tell one. -/
theorem src_same (a : Int) (m : Mp) : (xrcF a m).told = srcF a m := by
  unfold Src.told
  rcases src_bth a m with ⟨h1, h2⟩ | ⟨h1, h2, h3⟩
  · rw [h1, h2]; rfl
  · rw [if_neg (show ¬ (xrcF a m).b < 0 by omega), h1]
    cases hx : xrcF a m with
    | mk v p b ok => rw [hx] at h2; cases h2; rfl
end Go.Proofs.Ytmocggibcniggaa.Kt
