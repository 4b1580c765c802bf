/- Numbers of 128 bits to the left and to the right, word by word. -/
import Derived.Test.YtpbdffmgendboabWdPlain
namespace Go.Proofs.Ytpbdffmgendboab
namespace Wd
theorem lo_bit (x : BitVec 128) (i : Nat) (h : i < 64) : (lo x).getLsbD i = x.getLsbD i := by
  simp [lo, BitVec.getLsbD_setWidth, h]
theorem hi_bit (x : BitVec 128) (i : Nat) (h : i < 64) : (hi x).getLsbD i = x.getLsbD (64 + i) := by
  simp [hi, BitVec.getLsbD_setWidth, BitVec.getLsbD_ushiftRight, h]
theorem right_big_hi (a : BitVec 128) (n : Nat) (h : 64 ≤ n) : hi (a >>> n) = 0#64 := by
  apply BitVec.eq_of_getLsbD_eq
  intro i hi'
  rw [hi_bit _ _ hi', BitVec.getLsbD_ushiftRight, BitVec.getLsbD_of_ge _ _ (by omega)]; simp
theorem right_big_lo (a : BitVec 128) (n : Nat) (h : 64 ≤ n) : lo (a >>> n) = hi a >>> (min n 128 - 64) := by
  apply BitVec.eq_of_getLsbD_eq
  intro i hi'
  rw [lo_bit _ _ hi', BitVec.getLsbD_ushiftRight, BitVec.getLsbD_ushiftRight]
  by_cases hs : min n 128 - 64 + i < 64
  · rw [hi_bit _ _ hs]; congr 1; omega
  · rw [BitVec.getLsbD_of_ge _ _ (by omega), BitVec.getLsbD_of_ge _ _ (by omega)]
theorem right_hi (a : BitVec 128) (n : Nat) (h : n < 64) : hi (a >>> n) = hi a >>> n := by
  apply BitVec.eq_of_getLsbD_eq
  intro i hi'
  rw [hi_bit _ _ hi', BitVec.getLsbD_ushiftRight, BitVec.getLsbD_ushiftRight]
  by_cases hs : n + i < 64
  · rw [hi_bit _ _ hs]; congr 1; omega
  · rw [BitVec.getLsbD_of_ge _ _ (by omega), BitVec.getLsbD_of_ge _ _ (by omega)]
theorem right_lo (a : BitVec 128) (n : Nat) (h0 : 0 < n) (h : n < 64) : lo (a >>> n) = lo a >>> n ||| hi a <<< (64 - n) := by
  apply BitVec.eq_of_getLsbD_eq
  intro i hi'
  rw [lo_bit _ _ hi', BitVec.getLsbD_ushiftRight, BitVec.getLsbD_or, BitVec.getLsbD_ushiftRight, BitVec.getLsbD_shiftLeft]
  by_cases hs : n + i < 64
  · rw [lo_bit _ _ hs]
    have : decide (i < 64 - n) = true := by simp; omega
    simp [this]
  · rw [BitVec.getLsbD_of_ge (lo a) _ (by omega), hi_bit _ _ (by omega)]
    have : decide (i < 64 - n) = false := by simp; omega
    simp only [this, decide_eq_true hi', Bool.false_or, Bool.not_false, Bool.and_self, Bool.true_and]
    congr 1; omega
theorem left_big_lo (a : BitVec 128) (n : Nat) (h : 64 ≤ n) : lo (a <<< n) = 0#64 := by
  apply BitVec.eq_of_getLsbD_eq
  intro i hi'
  rw [lo_bit _ _ hi', BitVec.getLsbD_shiftLeft]
  have : decide (i < n) = true := by simp; omega
  simp [this]
theorem left_big_hi (a : BitVec 128) (n : Nat) (h : 64 ≤ n) : hi (a <<< n) = lo a <<< (min n 128 - 64) := by
  apply BitVec.eq_of_getLsbD_eq
  intro i hi'
  rw [hi_bit _ _ hi', BitVec.getLsbD_shiftLeft, BitVec.getLsbD_shiftLeft]
  by_cases hs : 64 + i < n
  · have e1 : decide (64 + i < n) = true := by simpa using hs
    have e2 : decide (i < min n 128 - 64) = true := by simp; omega
    simp [e1, e2]
  · have e1 : decide (64 + i < n) = false := by simpa using hs
    have e2 : decide (i < min n 128 - 64) = false := by simp; omega
    rw [lo_bit _ _ (by omega)]
    simp only [e1, e2, decide_eq_true hi', decide_eq_true (show 64 + i < 128 from by omega), Bool.not_false, Bool.and_self, Bool.true_and]
    congr 1; omega
theorem left_lo (a : BitVec 128) (n : Nat) (h : n < 64) : lo (a <<< n) = lo a <<< n := by
  apply BitVec.eq_of_getLsbD_eq
  intro i hi'
  rw [lo_bit _ _ hi', BitVec.getLsbD_shiftLeft, BitVec.getLsbD_shiftLeft, lo_bit _ _ (by omega)]
  simp [hi', show i < 128 from by omega]
theorem left_hi (a : BitVec 128) (n : Nat) (h0 : 0 < n) (h : n < 64) : hi (a <<< n) = hi a <<< n ||| lo a >>> (64 - n) := by
  apply BitVec.eq_of_getLsbD_eq
  intro i hi'
  rw [hi_bit _ _ hi', BitVec.getLsbD_shiftLeft, BitVec.getLsbD_or, BitVec.getLsbD_ushiftRight, BitVec.getLsbD_shiftLeft]
  have e0 : decide (64 + i < n) = false := by simp; omega
  have e1 : decide (64 + i < 128) = true := by simp; omega
  by_cases hs : i < n
  · have e2 : decide (i < n) = true := by simpa using hs
    rw [lo_bit _ _ (by omega)]
    simp only [e0, e1, e2, Bool.not_false, Bool.not_true, Bool.and_false, Bool.false_and, Bool.false_or, Bool.and_self, Bool.true_and]
    congr 1; omega
  · have e2 : decide (i < n) = false := by simpa using hs
    rw [hi_bit _ _ (by omega), BitVec.getLsbD_of_ge (lo a) _ (by omega)]
    simp only [e0, e1, e2, decide_eq_true hi', Bool.not_false, Bool.and_self, Bool.true_and, Bool.or_false]
    congr 1; omega
/-- one bit -/
def bit (a : BitVec 128) (i : Nat) : Nat := (a.getLsbD i).toNat
theorem bit_is (a : BitVec 128) (i : Nat) : (lo (a >>> i)).toNat % 2 = bit a i := by
  have e : (lo (a >>> i)).getLsbD 0 = a.getLsbD i := by rw [lo_bit _ _ (by omega), BitVec.getLsbD_ushiftRight]; rfl
  unfold bit
  rw [← e, BitVec.getLsbD, Nat.testBit_zero]
  rcases Nat.mod_two_eq_zero_or_one (lo (a >>> i)).toNat with h | h <;> simp [h]
end Wd
end Go.Proofs.Ytpbdffmgendboab
