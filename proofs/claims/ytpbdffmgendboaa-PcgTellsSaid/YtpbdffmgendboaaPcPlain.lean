/- The congruential generator's full period, in plain Lean. -/
import Derived.Test.YtpbdffmgendboaaAfPlain
namespace Go.Proofs.Ytpbdffmgendboaa
namespace Pc
open Af
def factor : BitVec 128 := 0xda942042e4dd58b5#128
/-- 1 + A + .. + A^(d-1) -/
def sumN (A : Nat) : Nat → Nat
  | 0 => 0
  | d + 1 => A * sumN A d + 1
theorem sum_dbl (A : Nat) : ∀ e, sumN A (2 * e) = (1 + A) * sumN (A * A) e
  | 0 => by simp [sumN]
  | e + 1 => by
    show A * (A * sumN A (2 * e) + 1) + 1 = (1 + A) * (A * A * sumN (A * A) e + 1)
    rw [sum_dbl A e]
    generalize sumN (A * A) e = t
    simp only [Nat.mul_add, Nat.add_mul, Nat.mul_one, Nat.one_mul]
    rw [show A * (A * t) = A * A * t from by ac_rfl]
    omega
theorem sum_par (A : Nat) (h : A % 2 = 1) : ∀ d, sumN A d % 2 = d % 2
  | 0 => rfl
  | d + 1 => by
    show (A * sumN A d + 1) % 2 = _
    rw [Nat.add_mod, Nat.mul_mod, h, sum_par A h d]
    omega
theorem cop (k b : Nat) : Nat.Coprime (2 ^ k) (2 * b + 1) := by
  apply Nat.Coprime.pow_left
  rw [Nat.Coprime, Nat.gcd_rec, show (2 * b + 1) % 2 = 1 from by omega]
  decide
theorem sum_dvd : ∀ (k A d : Nat), A % 4 = 1 → 2 ^ k ∣ sumN A d → 2 ^ k ∣ d
  | 0, _, _, _, _ => by simp
  | k + 1, A, d, hA, h => by
    have h2 : sumN A d % 2 = 0 := Nat.mod_eq_zero_of_dvd (Nat.dvd_trans ⟨2 ^ k, by rw [Nat.pow_succ, Nat.mul_comm]⟩ h)
    rw [sum_par A (by omega)] at h2
    obtain ⟨e, rfl⟩ : ∃ e, d = 2 * e := ⟨d / 2, by omega⟩
    obtain ⟨b, rfl⟩ : ∃ b, A = 4 * b + 1 := ⟨A / 4, by omega⟩
    rw [sum_dbl, show 1 + (4 * b + 1) = 2 * (2 * b + 1) from by omega, Nat.pow_succ, Nat.mul_comm (2 ^ k) 2, Nat.mul_assoc] at h
    have h3 := Nat.dvd_of_mul_dvd_mul_left (by omega) h
    have h4 := (cop k b).dvd_of_dvd_mul_left h3
    have h5 := sum_dvd k _ e (by rw [Nat.mul_mod, show (4 * b + 1) % 4 = 1 from by omega]) h4
    rw [Nat.pow_succ, Nat.mul_comm (2 ^ k) 2]
    exact Nat.mul_dvd_mul_left 2 h5
def sumB (A : BitVec 128) : Nat → BitVec 128
  | 0 => 0#128
  | d + 1 => A * sumB A d + 1#128
theorem sumB_nat (A : BitVec 128) : ∀ d, (sumB A d).toNat = sumN A.toNat d % 2 ^ 128
  | 0 => by simp [sumB, sumN]
  | d + 1 => by
    show (A * sumB A d + 1#128).toNat = (A.toNat * sumN A.toNat d + 1) % 2 ^ 128
    rw [BitVec.toNat_add, BitVec.toNat_mul, sumB_nat A d]
    simp [Nat.add_mod, Nat.mul_mod]
theorem diff (m : Map) (y : BitVec 128) : ∀ d, at' (pow m d) y - y = sumB m.a d * ((m.a - 1#128) * y + m.c)
  | 0 => by simp [pow, at', one, sumB]
  | d + 1 => by
    have ih := diff m y d
    show at' (thn (pow m d) m) y - y = (m.a * sumB m.a d + 1#128) * ((m.a - 1#128) * y + m.c)
    rw [at_thn, BitVec.add_mul, BitVec.one_mul, BitVec.mul_assoc, ← ih]
    simp only [at']
    generalize (pow m d).a * y + (pow m d).c = z
    have sub (a b : BitVec 128) : a - b = a + -b := BitVec.sub_eq_add_neg ..
    simp only [sub, BitVec.mul_add, BitVec.add_mul, BitVec.mul_neg, BitVec.neg_mul, BitVec.one_mul]
    rw [show m.a * z + -(m.a * y) + (m.a * y + -y + m.c) = (m.a * z + m.c + -y) + (-(m.a * y) + m.a * y) from by ac_rfl, BitVec.add_left_neg, BitVec.add_zero]
theorem odd_u (a y c : BitVec 128) (ha : odd a = true) (hc : odd c = true) : odd ((a - 1#128) * y + c) = true := by
  have h1 : a.toNat % 2 = 1 := by simpa [odd_nat] using ha
  have h2 : c.toNat % 2 = 1 := by simpa [odd_nat] using hc
  rw [odd_nat]
  simp only [decide_eq_true_eq]
  rw [BitVec.toNat_add, BitVec.toNat_mul, BitVec.toNat_sub]
  have e1 : (1#128 : BitVec 128).toNat = 1 := by decide
  rw [e1]
  have h3 : (2 ^ 128 - 1 + a.toNat) % 2 ^ 128 % 2 = 0 := by omega
  generalize (2 ^ 128 - 1 + a.toNat) % 2 ^ 128 = q at h3 ⊢
  have h4 : q * y.toNat % 2 = 0 := by rw [Nat.mul_mod, h3]; simp
  generalize q * y.toNat = r at h4 ⊢
  omega
/-- so many steps lead back only where they are none -/
theorem period (m : Map) (ha : m.a.toNat % 4 = 1) (hc : odd m.c = true) (y : BitVec 128) (d : Nat) (hd : d < 2 ^ 128) (h : at' (pow m d) y = y) : d = 0 := by
  have hodd : odd m.a = true := by rw [odd_nat]; simp; omega
  have e := diff m y d
  rw [h, BitVec.sub_self] at e
  have hu := odd_u m.a y m.c hodd hc
  generalize (m.a - 1#128) * y + m.c = u at e hu
  have s0 : sumB m.a d = 0#128 := by
    have : sumB m.a d * u * inv u = 0#128 * inv u := by rw [← e]
    rw [BitVec.mul_assoc, mul_inv u hu, BitVec.mul_one, BitVec.zero_mul] at this
    exact this
  have s1 := sumB_nat m.a d
  rw [s0] at s1
  have s2 : 2 ^ 128 ∣ sumN m.a.toNat d := Nat.dvd_of_mod_eq_zero (by rw [← s1]; rfl)
  obtain ⟨q, hq⟩ := sum_dvd 128 _ d ha s2
  rcases Nat.eq_zero_or_pos q with h0 | h0
  · rw [hq, h0, Nat.mul_zero]
  · exfalso
    have : 2 ^ 128 * 1 ≤ 2 ^ 128 * q := Nat.mul_le_mul_left _ h0
    omega
theorem apart (m : Map) (ha : m.a.toNat % 4 = 1) (hc : odd m.c = true) (y : BitVec 128) (n k : Nat) (hn : n < 2 ^ 128) (hk : k < 2 ^ 128) (h : at' (pow m n) y = at' (pow m k) y) : n = k := by
  rcases Nat.le_total n k with hle | hle
  · obtain ⟨d, rfl⟩ := Nat.exists_eq_add_of_le hle
    rw [← pow_add, at_thn] at h
    have := period m ha hc _ d (by omega) h.symm
    omega
  · obtain ⟨d, rfl⟩ := Nat.exists_eq_add_of_le hle
    rw [← pow_add, at_thn] at h
    have := period m ha hc _ d (by omega) h
    omega
theorem one_pow : ∀ q, pow one q = one
  | 0 => rfl
  | q + 1 => by show thn (pow one q) one = one; rw [thn_one, one_pow q]
theorem sq_mod (a j : Nat) (hj : 1 ≤ j) (h : a % 2 ^ j = 1) : a * a % 2 ^ (j + 1) = 1 := by
  obtain ⟨t, ht⟩ : ∃ t, a = 1 + 2 ^ j * t := ⟨a / 2 ^ j, by have := Nat.div_add_mod a (2 ^ j); omega⟩
  obtain ⟨i, rfl⟩ : ∃ i, j = i + 1 := ⟨j - 1, by omega⟩
  have e : a * a = 1 + 2 ^ (i + 1 + 1) * (t + 2 ^ i * (t * t)) := by
    rw [ht]
    simp only [Nat.mul_add, Nat.add_mul, Nat.mul_one, Nat.one_mul, Nat.pow_succ]
    rw [show 2 ^ i * 2 * t * (2 ^ i * 2 * t) = 2 ^ i * 2 * 2 * (2 ^ i * (t * t)) from by ac_rfl, show 2 ^ i * 2 * 2 * t = 2 ^ i * 2 * t * 2 from by ac_rfl]
    omega
  have big : 1 < 2 ^ (i + 1 + 1) := Nat.one_lt_two_pow (by omega)
  rw [e, Nat.add_mul_mod_self_left, Nat.mod_eq_of_lt big]
theorem pow_two (m : Map) (k : Nat) : pow m (2 ^ (k + 1)) = thn (pow m (2 ^ k)) (pow m (2 ^ k)) := by
  rw [pow_add, Nat.pow_succ]; congr 1; omega
theorem dbl_c (M : Map) (k : Nat) (hk : k + 1 ≤ 128) (h1 : 2 ^ k ∣ M.c.toNat) (h2 : M.a.toNat % 2 ^ (k + 1) = 1) : 2 ^ (k + 1) ∣ (thn M M).c.toNat := by
  show 2 ^ (k + 1) ∣ (M.a * M.c + M.c).toNat
  have ev : 2 ∣ M.a.toNat + 1 := by
    have h3 : M.a.toNat % 2 = 1 := by
      rw [← Nat.mod_mod_of_dvd _ (show 2 ∣ 2 ^ (k + 1) from ⟨2 ^ k, by rw [Nat.pow_succ, Nat.mul_comm]⟩), h2]
    omega
  rw [BitVec.toNat_add, BitVec.toNat_mul, Nat.mod_add_mod]
  refine (Nat.dvd_mod_iff (Nat.pow_dvd_pow 2 hk)).2 ?_
  rw [show M.a.toNat * M.c.toNat + M.c.toNat = (M.a.toNat + 1) * M.c.toNat from by rw [Nat.add_mul, Nat.one_mul], Nat.pow_succ, Nat.mul_comm (2 ^ k) 2]
  exact Nat.mul_dvd_mul ev h1
theorem pow_dvd (m : Map) (ha : odd m.a = true) : ∀ k, k ≤ 127 → 2 ^ k ∣ (pow m (2 ^ k)).c.toNat ∧ (pow m (2 ^ k)).a.toNat % 2 ^ (k + 1) = 1
  | 0, _ => by
    rw [show (2 : Nat) ^ 0 = 1 from rfl, pow_one]
    exact ⟨⟨m.c.toNat, by omega⟩, by simpa [odd_nat] using ha⟩
  | k + 1, hk => by
    obtain ⟨h1, h2⟩ := pow_dvd m ha k (by omega)
    rw [pow_two]
    generalize pow m (2 ^ k) = M at h1 h2 ⊢
    refine ⟨dbl_c M k (by omega) h1 h2, ?_⟩
    show (M.a * M.a).toNat % _ = 1
    rw [BitVec.toNat_mul, Nat.mod_mod_of_dvd _ (Nat.pow_dvd_pow 2 (by omega))]
    exact sq_mod _ _ (by omega) h2
theorem pow_whole (m : Map) (ha : odd m.a = true) : pow m (2 ^ 128) = one := by
  obtain ⟨h1, h2⟩ := pow_dvd m ha 127 (by omega)
  rw [pow_two]
  generalize pow m (2 ^ 127) = M at h1 h2 ⊢
  have h3 := dbl_c M 127 (by omega) h1 h2
  have hc : (thn M M).c = 0#128 := by
    apply BitVec.eq_of_toNat_eq
    have := (thn M M).c.isLt
    obtain ⟨q, hq⟩ := h3
    show _ = 0
    omega
  have hM : M.a = 1#128 := by
    apply BitVec.eq_of_toNat_eq
    have := M.a.isLt
    rw [Nat.mod_eq_of_lt this] at h2
    exact h2
  have hA : (thn M M).a = 1#128 := by
    show M.a * M.a = _
    rw [hM]; decide
  cases h : thn M M with
  | mk a c => rw [h] at hc hA; simp only at hc hA; rw [hc, hA]; rfl
theorem pow_mod (m : Map) (ha : odd m.a = true) (n : Nat) : pow m (n % 2 ^ 128) = pow m n := by
  have e : n = 2 ^ 128 * (n / 2 ^ 128) + n % 2 ^ 128 := (Nat.div_add_mod n (2 ^ 128)).symm
  have h : pow m n = pow m (2 ^ 128 * (n / 2 ^ 128) + n % 2 ^ 128) := congrArg (pow m) e
  rw [h, ← pow_add, ← pow_mul, pow_whole m ha, one_pow, one_thn]
/- the generator -/
structure St where
  s : BitVec 128
  i : BitVec 128
def map (x : St) : Map := ⟨factor, x.i⟩
def step (x : St) : St := ⟨at' (map x) x.s, x.i⟩
def back (x : St) : St := ⟨at' (inverse (map x)) x.s, x.i⟩
def jump (x : St) (n : BitVec 128) : St := ⟨at' (pow (map x) n.toNat) x.s, x.i⟩
theorem odd_factor : odd factor = true := by decide +kernel
theorem back_step (x : St) : back (step x) = x := by
  show St.mk (at' (inverse (map x)) (at' (map x) x.s)) x.i = x
  rw [inverse_at _ odd_factor]
theorem step_back (x : St) : step (back x) = x := by
  show St.mk (at' (map x) (at' (inverse (map x)) x.s)) x.i = x
  rw [at_inverse _ odd_factor]
theorem jump_jump (x : St) (n k : BitVec 128) : jump (jump x n) k = jump x (n + k) := by
  show St.mk (at' (pow (map x) k.toNat) (at' (pow (map x) n.toNat) x.s)) x.i = St.mk (at' (pow (map x) (n + k).toNat) x.s) x.i
  rw [← at_thn, pow_add, BitVec.toNat_add, pow_mod _ odd_factor]
theorem jump_one (x : St) : jump x 1#128 = step x := by
  show St.mk (at' (pow (map x) 1) x.s) x.i = _
  rw [pow_one]; rfl
theorem jump_zero (x : St) : jump x 0#128 = x := by
  show St.mk (at' one x.s) x.i = x
  simp [at', one]
theorem jump_inj (x : St) (h : odd x.i = true) (n k : BitVec 128) : jump x n = jump x k ↔ n = k := by
  refine ⟨fun e => ?_, fun e => by rw [e]⟩
  have e' : at' (pow (map x) n.toNat) x.s = at' (pow (map x) k.toNat) x.s := congrArg St.s e
  exact BitVec.eq_of_toNat_eq (apart (map x) (show factor.toNat % 4 = 1 from by decide +kernel) h x.s _ _ n.isLt k.isLt e')
end Pc
end Go.Proofs.Ytpbdffmgendboaa
