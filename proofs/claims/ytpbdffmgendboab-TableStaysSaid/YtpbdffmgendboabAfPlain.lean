/- Maps that multiply and add, in plain Lean. -/
import Derived.Test.YtpbdffmgendboabWdPlain
namespace Go.Proofs.Ytpbdffmgendboab
namespace Af
abbrev W := BitVec 128
structure Map where
  a : BitVec 128
  c : BitVec 128
def one : Map := ⟨1#128, 0#128⟩
def at' (m : Map) (x : BitVec 128) : BitVec 128 := m.a * x + m.c
def thn (m n : Map) : Map := ⟨n.a * m.a, at' n m.c⟩
theorem at_thn (a b : Map) (x : BitVec 128) : at' (thn a b) x = at' b (at' a x) := by
  simp only [at', thn, BitVec.mul_add, BitVec.mul_assoc, BitVec.add_assoc]
theorem thn_assoc (a b c : Map) : thn (thn a b) c = thn a (thn b c) := by
  simp only [at', thn, BitVec.mul_add, BitVec.mul_assoc, BitVec.add_assoc]
theorem thn_one (a : Map) : thn a one = a := by simp [thn, at', one]
theorem one_thn (a : Map) : thn one a = a := by simp [thn, at', one]
def pow (m : Map) : Nat → Map
  | 0 => one
  | k + 1 => thn (pow m k) m
theorem pow_one (m : Map) : pow m 1 = m := one_thn m
theorem pow_add (m : Map) (a : Nat) : ∀ b, thn (pow m a) (pow m b) = pow m (a + b)
  | 0 => thn_one _
  | b + 1 => by show thn (pow m a) (thn (pow m b) m) = _; rw [← thn_assoc, pow_add m a b]; rfl
theorem pow_succ' (m : Map) (k : Nat) : thn m (pow m k) = pow m (k + 1) := by
  have := pow_add m 1 k
  rw [pow_one, Nat.add_comm] at this
  exact this
theorem pow_mul (m : Map) (a : Nat) : ∀ b, pow (pow m a) b = pow m (a * b)
  | 0 => rfl
  | b + 1 => by show thn (pow (pow m a) b) (pow m a) = _; rw [pow_mul m a b, pow_add, Nat.mul_succ]
theorem pow_dbl (m : Map) (k : Nat) : pow (thn m m) k = pow m (2 * k) := by
  have h : thn m m = pow m 2 := by show _ = thn (pow m 1) m; rw [pow_one]
  rw [h, pow_mul]

/- one round of the powers' loop -/
def odd (n : BitVec 128) : Bool := n.getLsbD 0
def next (out m : Map) (n : BitVec 128) : Map := if odd n then thn out m else out
theorem odd_nat (n : BitVec 128) : odd n = decide (n.toNat % 2 = 1) := by
  unfold odd
  rw [BitVec.getLsbD, Nat.testBit_zero]
theorem half_nat (n : BitVec 128) : (n >>> 1).toNat = n.toNat / 2 := by
  rw [BitVec.toNat_ushiftRight, Nat.shiftRight_eq_div_pow]
theorem round (out m : Map) (n : BitVec 128) : thn (next out m n) (pow (thn m m) (n >>> 1).toNat) = thn out (pow m n.toNat) := by
  rw [pow_dbl, half_nat]
  unfold next
  rw [odd_nat]
  by_cases h : n.toNat % 2 = 1
  · rw [if_pos (by simpa using h), thn_assoc, pow_succ', show 2 * (n.toNat / 2) + 1 = n.toNat from by omega]
  · rw [if_neg (by simpa using h), show 2 * (n.toNat / 2) = n.toNat from by omega]

/- what makes an odd number 1 -/
def newton (n : BitVec 128) : Nat → BitVec 128
  | 0 => n
  | k + 1 => newton n k * (2#128 - n * newton n k)
def inv (n : BitVec 128) : BitVec 128 := newton n 7
theorem one_sub_sub (q : BitVec 128) : 1#128 - (1#128 - q) = q := by
  rw [BitVec.sub_eq_add_neg, BitVec.sub_eq_add_neg, BitVec.neg_add, BitVec.sub_eq_add_neg, BitVec.neg_neg, ← BitVec.add_assoc, show (1#128 + -1#128 : BitVec 128) = 0#128 from by decide, BitVec.zero_add]
theorem nt (y : BitVec 128) : y * (2#128 - y) = 1#128 - (1#128 - y) * (1#128 - y) := by
  obtain ⟨e, rfl⟩ : ∃ e, y = 1#128 - e := ⟨1#128 - y, (one_sub_sub y).symm⟩
  rw [one_sub_sub]
  have h2 : 2#128 - (1#128 - e) = 1#128 + e := by
    rw [show (2#128 : BitVec 128) = 1#128 + 1#128 from by decide, BitVec.sub_eq_add_neg, BitVec.add_assoc, ← BitVec.sub_eq_add_neg, one_sub_sub]
  rw [h2, BitVec.sub_eq_add_neg, BitVec.add_mul, BitVec.one_mul, BitVec.mul_add, BitVec.mul_one, BitVec.neg_mul, BitVec.add_assoc, ← BitVec.add_assoc e, BitVec.add_right_neg, BitVec.zero_add, BitVec.sub_eq_add_neg]
def err (n : BitVec 128) (k : Nat) : BitVec 128 := 1#128 - n * newton n k
theorem err_succ (n : BitVec 128) (k : Nat) : err n (k + 1) = err n k * err n k := by
  show 1#128 - n * (newton n k * (2#128 - n * newton n k)) = _
  rw [← BitVec.mul_assoc, nt]
  exact one_sub_sub _
theorem dvd_sq (e : BitVec 128) (k : Nat) (hk : 2 * k ≤ 128) (h : 2 ^ k ∣ e.toNat) : 2 ^ (2 * k) ∣ (e * e).toNat := by
  rw [BitVec.toNat_mul]
  refine (Nat.dvd_mod_iff (Nat.pow_dvd_pow 2 hk)).2 ?_
  rw [show 2 ^ (2 * k) = 2 ^ k * 2 ^ k from by rw [← Nat.pow_add]; congr 1; omega]
  exact Nat.mul_dvd_mul h h
theorem err_dvd (n : BitVec 128) (hn : odd n = true) : ∀ k, k ≤ 7 → 2 ^ (2 ^ k) ∣ (err n k).toNat
  | 0, _ => by
    have h : n.toNat % 2 = 1 := by simpa [odd_nat] using hn
    show 2 ^ 1 ∣ (1#128 - n * n).toNat
    rw [BitVec.toNat_sub, BitVec.toNat_mul]
    have h2 : n.toNat * n.toNat % 2 = 1 := by rw [Nat.mul_mod, h]
    generalize n.toNat * n.toNat = q at h2 ⊢
    have e1 : (1#128 : BitVec 128).toNat = 1 := by decide
    rw [e1]
    apply Nat.dvd_of_mod_eq_zero
    omega
  | k + 1, hk => by
    rw [err_succ, Nat.pow_succ, Nat.mul_comm (2 ^ k) 2]
    have h7 : 2 ^ k ≤ 2 ^ 6 := Nat.pow_le_pow_right (by omega) (by omega)
    exact dvd_sq _ _ (by omega) (err_dvd n hn k (by omega))
theorem mul_inv (n : BitVec 128) (hn : odd n = true) : n * inv n = 1#128 := by
  have h := err_dvd n hn 7 (by omega)
  have z : err n 7 = 0#128 := by
    apply BitVec.eq_of_toNat_eq
    have := (err n 7).isLt
    have h' : 340282366920938463463374607431768211456 ∣ (err n 7).toNat := h
    obtain ⟨q, hq⟩ := h'
    show _ = 0
    omega
  have z2 : n * inv n = 1#128 - err n 7 := by
    show _ = 1#128 - (1#128 - n * inv n)
    exact (one_sub_sub _).symm
  rw [z2, z]; decide
theorem inv_mul (n : BitVec 128) (hn : odd n = true) : inv n * n = 1#128 := by rw [BitVec.mul_comm, mul_inv n hn]
def inverse (m : Map) : Map := ⟨inv m.a, inv m.a * (0#128 - m.c)⟩
theorem inverse_at (m : Map) (h : odd m.a = true) (x : BitVec 128) : at' (inverse m) (at' m x) = x := by
  simp only [at', inverse]
  rw [BitVec.mul_add, ← BitVec.mul_assoc, inv_mul _ h, BitVec.one_mul, BitVec.add_assoc, ← BitVec.mul_add, BitVec.zero_sub, BitVec.add_right_neg, BitVec.mul_zero, BitVec.add_zero]
theorem at_inverse (m : Map) (h : odd m.a = true) (x : BitVec 128) : at' m (at' (inverse m) x) = x := by
  simp only [at', inverse]
  rw [BitVec.mul_add, ← BitVec.mul_assoc, ← BitVec.mul_assoc, mul_inv _ h, BitVec.one_mul, BitVec.one_mul, BitVec.zero_sub, BitVec.add_assoc, BitVec.add_left_neg, BitVec.add_zero]
theorem thn_inverse (m : Map) (h : odd m.a = true) : thn m (inverse m) = one := by
  have e := inverse_at m h 0#128
  simp only [at', BitVec.mul_zero, BitVec.zero_add] at e
  simp only [thn, one, at']
  rw [e]
  exact congrArg (fun a => Map.mk a 0#128) (inv_mul _ h)
end Af
end Go.Proofs.Ytpbdffmgendboab
