/- What makes an odd number 1, bit by bit: plain. -/
import Derived.Test.YtpbdffmgendboaaAfPlain
namespace Go.Proofs.Ytpbdffmgendboaa
namespace R9
def ok (n y : BitVec 128) (t : Nat) : Prop := (n * y).toNat % 2 ^ t = 1 % 2 ^ t
theorem one_bit (t : Nat) : (1#128).getLsbD t = decide (t = 0) := by
  by_cases h : t = 0
  · subst h; rfl
  · rw [decide_eq_false h]
    show Nat.testBit 1 t = false
    rw [Nat.testBit_eq_decide_div_mod_eq, Nat.div_eq_of_lt (Nat.one_lt_two_pow h)]; rfl
theorem bitN (x : BitVec 128) (t : Nat) : x.toNat / 2 ^ t % 2 = (x.getLsbD t).toNat := by
  rw [BitVec.getLsbD, Nat.testBit_eq_decide_div_mod_eq]
  rcases Nat.mod_two_eq_zero_or_one (x.toNat / 2 ^ t) with e | e <;> simp [e]
theorem one_div (t : Nat) : 1 / 2 ^ t % 2 = (decide (t = 0)).toNat := by
  have h := bitN 1#128 t
  rw [one_bit] at h
  exact h
theorem modS (a t : Nat) : a % 2 ^ (t + 1) = a % 2 ^ t + 2 ^ t * (a / 2 ^ t % 2) := by
  rw [Nat.pow_succ]; exact Nat.mod_mul
theorem start (n : BitVec 128) : ok n 0#128 0 := by unfold ok; rw [Nat.pow_zero, Nat.mod_one, Nat.mod_one]
theorem keep {n y : BitVec 128} {t : Nat} (h : ok n y t) (hb : (n * y).getLsbD t = decide (t = 0)) : ok n y (t + 1) := by
  unfold ok at *
  rw [modS, modS 1, h, bitN, one_div, hb]
theorem flip {n y : BitVec 128} {t : Nat} (hn : Af.odd n = true) (ht : t < 128) (h : ok n y t) (hb : (n * y).getLsbD t = !decide (t = 0)) : ok n (y + 1#128 <<< t) (t + 1) := by
  unfold ok at *
  have e1 : n * (y + 1#128 <<< t) = n * y + n <<< t := by
    rw [BitVec.mul_add]; congr 1
    rw [BitVec.shiftLeft_eq_mul_twoPow, BitVec.shiftLeft_eq_mul_twoPow, BitVec.one_mul]
  have hp : 2 ^ (t + 1) ∣ 2 ^ 128 := Nat.pow_dvd_pow 2 (by omega)
  obtain ⟨k, hk⟩ : ∃ k, n.toNat = 2 * k + 1 := by
    rw [Af.odd_nat] at hn
    have := of_decide_eq_true hn
    exact ⟨n.toNat / 2, by omega⟩
  have e2 : (n * (y + 1#128 <<< t)).toNat % 2 ^ (t + 1) = ((n * y).toNat + 2 ^ t) % 2 ^ (t + 1) := by
    rw [e1, BitVec.toNat_add, BitVec.toNat_shiftLeft, Nat.mod_mod_of_dvd _ hp, Nat.shiftLeft_eq, hk, Nat.add_mod, Nat.mod_mod_of_dvd _ hp, ← Nat.add_mod]
    have e3 : (n * y).toNat + (2 * k + 1) * 2 ^ t = (n * y).toNat + 2 ^ t + 2 ^ (t + 1) * k := by
      rw [Nat.pow_succ, Nat.add_mul, Nat.one_mul, Nat.mul_comm 2 k, Nat.mul_assoc, Nat.mul_comm (2 ^ t) 2, Nat.mul_comm (2 * 2 ^ t) k]; omega
    rw [e3, Nat.add_mul_mod_self_left]
  rw [e2, modS, modS 1, Nat.add_mod_right, h, Nat.add_div_right _ (Nat.two_pow_pos t), one_div]
  have e4 := bitN (n * y) t
  rw [hb] at e4
  congr 2
  generalize (n * y).toNat / 2 ^ t = m at e4 ⊢
  cases hd : decide (t = 0) <;> rw [hd] at e4 <;> simp at e4 ⊢ <;> omega
theorem done {n y : BitVec 128} (hn : Af.odd n = true) (h : ok n y 128) : y = Af.inv n := by
  have e : n * y = 1#128 := by
    apply BitVec.eq_of_toNat_eq
    unfold ok at h
    rw [Nat.mod_eq_of_lt (n * y).isLt] at h
    rw [h]; rfl
  have e2 : Af.inv n * (n * y) = Af.inv n * 1#128 := by rw [e]
  rwa [← BitVec.mul_assoc, Af.inv_mul n hn, BitVec.one_mul, BitVec.mul_one] at e2
end R9
namespace Af
def oddv (x : BitVec 128) : BitVec 128 := if odd x = true then inv x else 0#128
def odde (x : BitVec 128) : Int := if odd x = true then 0 else 1
theorem oddv_t {x : BitVec 128} (h : odd x = true) : oddv x = inv x := if_pos h
theorem oddv_f {x : BitVec 128} (h : odd x = false) : oddv x = 0#128 := if_neg (by rw [h]; decide)
theorem odde_t {x : BitVec 128} (h : odd x = true) : odde x = 0 := if_pos h
theorem odde_f {x : BitVec 128} (h : odd x = false) : odde x = 1 := if_neg (by rw [h]; decide)
end Af
end Go.Proofs.Ytpbdffmgendboaa
