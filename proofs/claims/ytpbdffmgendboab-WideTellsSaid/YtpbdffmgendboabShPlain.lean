/- Shifts, in plain Lean. -/
import Derived.Test.YtpbdffmgendboabDvPlain
import Derived.Test.YtpbdffmgendboabWdE
namespace Go.Proofs.Ytpbdffmgendboab
namespace Wd
theorem one_shl (n : Nat) (h : n < 128) : (1#128 <<< n).toNat = 2 ^ n := by
  rw [BitVec.toNat_shiftLeft, Nat.shiftLeft_eq, show (1#128).toNat = 1 from rfl, Nat.one_mul]
  exact Nat.mod_eq_of_lt (Nat.pow_lt_pow_right (by decide) h)
theorem shl_mul (a : BitVec 128) (n : Nat) : a <<< n = a * (1#128 <<< n) := by
  apply BitVec.eq_of_toNat_eq
  rw [BitVec.toNat_mul, BitVec.toNat_shiftLeft, BitVec.toNat_shiftLeft, Nat.shiftLeft_eq, Nat.shiftLeft_eq, show (1#128).toNat = 1 from rfl, Nat.one_mul, Nat.mul_mod_mod]
theorem shl_add (a : BitVec 128) (n m : Nat) : a <<< n <<< m = a <<< (n + m) := by
  apply BitVec.eq_of_toNat_eq
  rw [BitVec.toNat_shiftLeft, BitVec.toNat_shiftLeft, BitVec.toNat_shiftLeft, Nat.shiftLeft_eq, Nat.shiftLeft_eq, Nat.shiftLeft_eq, Nat.mod_mul_mod, Nat.pow_add, Nat.mul_assoc]
theorem shr_add (a : BitVec 128) (n m : Nat) : a >>> n >>> m = a >>> (n + m) := by
  apply BitVec.eq_of_toNat_eq
  rw [BitVec.toNat_ushiftRight, BitVec.toNat_ushiftRight, BitVec.toNat_ushiftRight, Nat.shiftRight_eq_div_pow, Nat.shiftRight_eq_div_pow, Nat.shiftRight_eq_div_pow, Nat.div_div_eq_div_mul, Nat.pow_add]
/-- what is left below -/
theorem low_nat (a : BitVec 128) (n : Nat) : (a - (a >>> n) <<< n).toNat = a.toNat % 2 ^ n := by
  have ha := a.isLt
  have e : ((a >>> n) <<< n).toNat = a.toNat / 2 ^ n * 2 ^ n := by
    rw [BitVec.toNat_shiftLeft, BitVec.toNat_ushiftRight, Nat.shiftLeft_eq, Nat.shiftRight_eq_div_pow]
    exact Nat.mod_eq_of_lt (Nat.lt_of_le_of_lt (Nat.div_mul_le_self _ _) ha)
  have d := Nat.div_add_mod a.toNat (2 ^ n)
  rw [Nat.mul_comm] at d
  rw [BitVec.toNat_sub, e]
  omega
theorem low_lt (a : BitVec 128) (n : Nat) (h : n < 128) : cmp (a - (a >>> n) <<< n) (1#128 <<< n) = -1 := by
  refine cmpN_lt ?_
  rw [low_nat, one_shl n h]
  exact Nat.mod_lt _ (Nat.pow_pos (by decide))
theorem low_all (a : BitVec 128) (n : Nat) (h : 128 ≤ n) : a - (a >>> n) <<< n = a := by
  apply BitVec.eq_of_toNat_eq
  rw [low_nat]
  exact Nat.mod_eq_of_lt (Nat.lt_of_lt_of_le a.isLt (Nat.pow_le_pow_right (by decide) h))
theorem bit_right (a : BitVec 128) (n m : Nat) : bit (a >>> n) m = bit a (n + m) := by
  unfold bit; rw [BitVec.getLsbD_ushiftRight]
theorem bit_top (a : BitVec 128) (h : Bi.len a ≠ 0) : bit a (Bi.len a - 1) = 1 := by
  unfold bit; rw [Bi.len_top a h]; rfl
theorem cmp_le (a b : BitVec 128) : -1 ≤ cmp a b ∧ cmp a b ≤ 1 := by
  unfold cmp cmpN; split
  · omega
  · split <;> omega
theorem cmp_neg (a b : BitVec 128) : cmp a b = -(cmp b a) := by
  unfold cmp
  rcases Nat.lt_trichotomy a.toNat b.toNat with h | h | h
  · rw [cmpN_lt h, cmpN_gt h]
  · rw [cmpN_eq h, cmpN_eq h.symm]; rfl
  · rw [cmpN_gt h, cmpN_lt h]; rfl
theorem cmp_zero (a b : BitVec 128) : (cmp a b == 0) = Wd.eqb a b := by
  unfold cmp Wd.eqb
  rcases Nat.lt_trichotomy a.toNat b.toNat with h | h | h
  · rw [cmpN_lt h, decide_eq_false (fun e => by rw [e] at h; exact Nat.lt_irrefl _ h)]; rfl
  · rw [cmpN_eq h, decide_eq_true (BitVec.eq_of_toNat_eq h)]; rfl
  · rw [cmpN_gt h, decide_eq_false (fun e => by rw [e] at h; exact Nat.lt_irrefl _ h)]; rfl
theorem cmp_less (a b : BitVec 128) : decide (cmp a b < 0) = less a b := by
  unfold cmp less
  rcases Nat.lt_trichotomy a.toNat b.toNat with h | h | h
  · rw [cmpN_lt h, decide_eq_true h]; rfl
  · rw [cmpN_eq h, decide_eq_false (show ¬ a.toNat < b.toNat by omega)]; rfl
  · rw [cmpN_gt h, decide_eq_false (show ¬ a.toNat < b.toNat by omega)]; rfl
theorem over_cmp (a b : BitVec 128) : over a b = decide (cmp (a + b) a < 0) := by
  have ha := a.isLt
  have hb := b.isLt
  rw [cmp_less]
  unfold over less
  rw [decide_eq_decide, BitVec.toNat_add]
  omega
end Wd
end Go.Proofs.Ytpbdffmgendboab
