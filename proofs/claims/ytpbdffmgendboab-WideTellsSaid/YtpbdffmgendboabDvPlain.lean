/- The division by ten of a number of two words, in plain Lean. -/
import Derived.Test.YtpbdffmgendboabLnPlain
namespace Go.Proofs.Ytpbdffmgendboab
namespace Dv
def num (r lo : BitVec 64) : Nat := r.toNat * 18446744073709551616 + lo.toNat
def q (r lo : BitVec 64) : BitVec 64 := BitVec.ofNat 64 (num r lo / 10)
def m (r lo : BitVec 64) : BitVec 64 := BitVec.ofNat 64 (num r lo % 10)
theorem zero (r lo : BitVec 64) (h : r.toNat = 0) : lo / 10#64 = q r lo ∧ lo % 10#64 = m r lo := by
  have hl := lo.isLt
  have e : num r lo = lo.toNat := by unfold num; rw [h]; omega
  constructor
  · apply BitVec.eq_of_toNat_eq; rw [BitVec.toNat_udiv, show (10#64).toNat = 10 from rfl, q, BitVec.toNat_ofNat, e]; omega
  · apply BitVec.eq_of_toNat_eq; rw [BitVec.toNat_umod, show (10#64).toNat = 10 from rfl, m, BitVec.toNat_ofNat, e]; omega
theorem u32_nat (r lo u : BitVec 64) (hr : r.toNat < 10) (h : r <<< 60 ||| lo >>> 4 = u) : u.toNat = num r lo / 16 := by
  have hl := lo.isLt
  rw [← h, BitVec.toNat_or, BitVec.toNat_shiftLeft, BitVec.toNat_ushiftRight, Nat.shiftLeft_eq, Nat.shiftRight_eq_div_pow]
  rw [show r.toNat * 2 ^ 60 % 2 ^ 64 = 2 ^ 60 * r.toNat from by omega, ← Nat.two_pow_add_eq_or_of_lt (by omega)]
  unfold num; omega
theorem u10_nat (r lo u : BitVec 64) (h : lo <<< 60 = u) : u.toNat = num r lo % 16 * 1152921504606846976 := by
  have hl := lo.isLt
  rw [← h, BitVec.toNat_shiftLeft, Nat.shiftLeft_eq]; unfold num; omega
theorem u1_nat (r lo u v : BitVec 64) (h : u.toNat = num r lo % 16 * 1152921504606846976) (hv : u >>> 32 = v) : v.toNat = num r lo % 16 * 268435456 := by
  rw [← hv, BitVec.toNat_ushiftRight, Nat.shiftRight_eq_div_pow, h]; omega
theorem and_low (k : Nat) : (k * 1152921504606846976) &&& 4294967295 = 0 := by
  rw [show (4294967295 : Nat) = 2 ^ 32 - 1 from rfl, Nat.and_two_pow_sub_one_eq_mod]; omega
theorem u0_nat (r lo u v : BitVec 64) (h : u.toNat = num r lo % 16 * 1152921504606846976) (hv : u &&& 4294967295#64 = v) : v = 0#64 := by
  apply BitVec.eq_of_toNat_eq
  rw [← hv, BitVec.toNat_and, h, show (4294967295#64).toNat = 4294967295 from rfl, and_low]; rfl
theorem num_lt (r lo : BitVec 64) (hr : r.toNat < 10) : num r lo < 184467440737095516160 := by
  have hl := lo.isLt
  unfold num; omega
theorem q1_nat (u v : BitVec 64) (h : u / 2684354560#64 = v) : v.toNat = u.toNat / 2684354560 := by
  rw [← h, BitVec.toNat_udiv]; rfl
theorem rh_nat (u v x : BitVec 64) (hv : v.toNat = u.toNat / 2684354560) (h : u - v * 2684354560#64 = x) : x.toNat = u.toNat % 2684354560 := by
  have hu := u.isLt
  rw [← h, BitVec.toNat_sub, BitVec.toNat_mul, hv, show (2684354560#64).toNat = 2684354560 from rfl]; omega
theorem gt0 (v x y : BitVec 64) : decide (((v * 0#64).toNat : Int) > ((4294967296#64 * x + y).toNat : Int)) = false := by
  rw [BitVec.mul_zero]; exact decide_eq_false (by rw [show (0#64).toNat = 0 from rfl]; omega)
theorem u21_nat (r lo u v u1 x : BitVec 64) (hr : r.toNat < 10) (hu : u.toNat = num r lo / 16) (hv : v.toNat = u.toNat / 2684354560) (h1 : u1.toNat = num r lo % 16 * 268435456) (h : u * 4294967296#64 + u1 - v * 11529215046068469760#64 = x) :
    x.toNat = (num r lo / 16 % 2684354560 * 16 + num r lo % 16) * 268435456 := by
  have hn := num_lt r lo hr
  rw [← h, BitVec.toNat_sub, BitVec.toNat_add, BitVec.toNat_mul, BitVec.toNat_mul, hv, hu, h1, show (4294967296#64).toNat = 4294967296 from rfl, show (11529215046068469760#64).toNat = 11529215046068469760 from rfl]
  omega
theorem done_q (r lo v w : BitVec 64) (hr : r.toNat < 10) (hv : v.toNat = num r lo / 16 / 2684354560) (hw : w.toNat = (num r lo / 16 % 2684354560 * 16 + num r lo % 16) * 268435456 / 2684354560) :
    v * 4294967296#64 + w = q r lo := by
  have hn := num_lt r lo hr
  apply BitVec.eq_of_toNat_eq
  rw [BitVec.toNat_add, BitVec.toNat_mul, hv, hw, show (4294967296#64).toNat = 4294967296 from rfl, q, BitVec.toNat_ofNat]; omega
theorem done_m (r lo u w : BitVec 64) (hu : u.toNat = (num r lo / 16 % 2684354560 * 16 + num r lo % 16) * 268435456) (hw : w.toNat = u.toNat / 2684354560) :
    (u * 4294967296#64 + 0#64 - w * 11529215046068469760#64) >>> 60 = m r lo := by
  apply BitVec.eq_of_toNat_eq
  rw [BitVec.add_zero, BitVec.toNat_ushiftRight, BitVec.toNat_sub, BitVec.toNat_mul, BitVec.toNat_mul, Nat.shiftRight_eq_div_pow, hw, hu, show (4294967296#64).toNat = 4294967296 from rfl, show (11529215046068469760#64).toNat = 11529215046068469760 from rfl, m, BitVec.toNat_ofNat]
  omega
end Dv
namespace Wd
def ten (a : BitVec 128) : BitVec 128 := BitVec.ofNat 128 (a.toNat / 10)
theorem ten_nat (a : BitVec 128) : (ten a).toNat = a.toNat / 10 := by
  have := a.isLt
  rw [ten, BitVec.toNat_ofNat]; omega
theorem rest_lt (a : BitVec 128) : (hi a % 10#64).toNat < 10 := by rw [BitVec.toNat_umod]; exact Nat.mod_lt _ (by decide)
theorem dv_num (a : BitVec 128) : Dv.num (hi a % 10#64) (lo a) = (hi a).toNat % 10 * 18446744073709551616 + (lo a).toNat := by
  rw [Dv.num, BitVec.toNat_umod]; rfl
theorem ten_mk (a : BitVec 128) : mk (hi a / 10#64) (Dv.q (hi a % 10#64) (lo a)) = ten a := by
  have hn := Dv.num_lt _ (lo a) (rest_lt a)
  apply BitVec.eq_of_toNat_eq
  rw [mk_nat, ten_hi, Dv.q, BitVec.toNat_ofNat, Nat.mod_eq_of_lt (by omega), dv_num, ten_lo, ten_nat]; omega
theorem ten_digit (a : BitVec 128) : (Dv.m (hi a % 10#64) (lo a)).toNat % 256 = a.toNat % 10 := by
  rw [Dv.m, BitVec.toNat_ofNat, dv_num, ten_rest]; omega
theorem ten_zero (a : BitVec 128) : ten a = 0#128 ↔ a.toNat / 10 = 0 := by
  rw [← ten_nat]
  constructor
  · intro h; rw [h]; rfl
  · intro h; exact BitVec.eq_of_toNat_eq h
end Wd
end Go.Proofs.Ytpbdffmgendboab
