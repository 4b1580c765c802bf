/- Numbers of 128 bits: two words. -/
namespace Go.Proofs.Ytpbdffmgendboab
namespace Wd
def hi (x : BitVec 128) : BitVec 64 := (x >>> 64).setWidth 64
def lo (x : BitVec 128) : BitVec 64 := x.setWidth 64
def mk (h l : BitVec 64) : BitVec 128 := h ++ l

theorem lo_nat (x : BitVec 128) : (lo x).toNat = x.toNat % 18446744073709551616 := by
  simp [lo, BitVec.toNat_setWidth]
theorem hi_nat (x : BitVec 128) : (hi x).toNat = x.toNat / 18446744073709551616 := by
  have := x.isLt
  simp only [hi, BitVec.toNat_setWidth, BitVec.toNat_ushiftRight, Nat.shiftRight_eq_div_pow]
  omega
theorem mk_nat (h l : BitVec 64) : (mk h l).toNat = h.toNat * 18446744073709551616 + l.toNat := by
  simp only [mk, BitVec.toNat_append]
  rw [← Nat.shiftLeft_add_eq_or_of_lt l.isLt, Nat.shiftLeft_eq]
theorem hi_mk (h l : BitVec 64) : hi (mk h l) = h := BitVec.eq_of_toNat_eq (by rw [hi_nat, mk_nat]; have := l.isLt; omega)
theorem lo_mk (h l : BitVec 64) : lo (mk h l) = l := BitVec.eq_of_toNat_eq (by rw [lo_nat, mk_nat]; have := l.isLt; omega)
theorem mk_eta (x : BitVec 128) : mk (hi x) (lo x) = x := BitVec.eq_of_toNat_eq (by rw [mk_nat, hi_nat, lo_nat]; omega)
theorem ext {x y : BitVec 128} (h : hi x = hi y) (l : lo x = lo y) : x = y := by rw [← mk_eta x, h, l, mk_eta]
theorem eq_iff (x y : BitVec 128) : (hi x = hi y ∧ lo x = lo y) ↔ x = y := ⟨fun ⟨h, l⟩ => ext h l, fun h => by rw [h]; exact ⟨rfl, rfl⟩⟩

/- sums and differences -/
def over (a b : BitVec 128) : Bool := decide (340282366920938463463374607431768211456 ≤ a.toNat + b.toNat)
def less (a b : BitVec 128) : Bool := decide (a.toNat < b.toNat)
/-- what the low words carry -/
def cy (a b : BitVec 128) : Nat := ((lo a).toNat + (lo b).toNat) / 18446744073709551616
def cy2 (a b : BitVec 128) : Nat := ((hi a).toNat + (hi b).toNat + cy a b) / 18446744073709551616
theorem cy_le (a b : BitVec 128) : cy a b ≤ 1 := by
  have := (lo a).isLt; have := (lo b).isLt; unfold cy; omega
theorem add_lo (a b : BitVec 128) : ((lo a).toNat + (lo b).toNat) % 18446744073709551616 = (lo (a + b)).toNat := by
  rw [lo_nat, lo_nat, lo_nat, BitVec.toNat_add]; omega
theorem add_hi (a b : BitVec 128) : ((hi a).toNat + (hi b).toNat + cy a b) % 18446744073709551616 = (hi (a + b)).toNat := by
  unfold cy
  rw [lo_nat, lo_nat, hi_nat, hi_nat, hi_nat, BitVec.toNat_add]; omega
theorem add_over (a b : BitVec 128) : decide (0 < cy2 a b) = over a b := by
  have := a.isLt; have := b.isLt
  unfold cy2 cy over
  rw [lo_nat, lo_nat, hi_nat, hi_nat]
  apply decide_eq_decide.2
  omega
def bw (a b : BitVec 128) : Nat := if (lo a).toNat < (lo b).toNat then 1 else 0
def bw2 (a b : BitVec 128) : Nat := if (hi a).toNat < (hi b).toNat + bw a b then 1 else 0
theorem bw_le (a b : BitVec 128) : bw a b ≤ 1 := by unfold bw; split <;> omega
theorem sub_lo (a b : BitVec 128) : ((lo a).toNat + 18446744073709551616 - (lo b).toNat) % 18446744073709551616 = (lo (a - b)).toNat := by
  have := a.isLt; have := b.isLt
  rw [lo_nat, lo_nat, lo_nat, BitVec.toNat_sub]; omega
theorem sub_hi (a b : BitVec 128) : ((hi a).toNat + 18446744073709551616 - (hi b).toNat - bw a b) % 18446744073709551616 = (hi (a - b)).toNat := by
  have := a.isLt; have := b.isLt
  unfold bw
  rw [lo_nat, lo_nat, hi_nat, hi_nat, hi_nat, BitVec.toNat_sub]
  split <;> omega
theorem sub_less (a b : BitVec 128) : decide (0 < bw2 a b) = less a b := by
  have := a.isLt; have := b.isLt
  unfold bw2 bw less
  rw [lo_nat, lo_nat, hi_nat, hi_nat]
  apply decide_eq_decide.2
  split <;> split <;> omega

/- products -/
def full (x y : BitVec 64) : BitVec 128 := x.setWidth 128 * y.setWidth 128
theorem full_nat (x y : BitVec 64) : (full x y).toNat = x.toNat * y.toNat := by
  have hx := x.isLt; have hy := y.isLt
  have h : x.toNat * y.toNat < 2 ^ 128 := by
    have := Nat.mul_lt_mul'' hx hy
    rwa [← Nat.pow_add] at this
  rw [full, BitVec.toNat_mul, BitVec.toNat_setWidth, BitVec.toNat_setWidth, Nat.mod_eq_of_lt (a := x.toNat) (by omega), Nat.mod_eq_of_lt (a := y.toNat) (by omega), Nat.mod_eq_of_lt h]
theorem full_hi (x y : BitVec 64) : x.toNat * y.toNat / 18446744073709551616 = (hi (full x y)).toNat := by rw [hi_nat, full_nat]
theorem full_lo (x y : BitVec 64) : x.toNat * y.toNat % 18446744073709551616 = (lo (full x y)).toNat := by rw [lo_nat, full_nat]
theorem lo_of (x : BitVec 64) : lo (x.setWidth 128) = x := BitVec.eq_of_toNat_eq (by have := x.isLt; rw [lo_nat, BitVec.toNat_setWidth]; omega)
theorem hi_of (x : BitVec 64) : hi (x.setWidth 128) = 0#64 := BitVec.eq_of_toNat_eq (by have := x.isLt; rw [hi_nat, BitVec.toNat_setWidth]; simp; omega)
theorem nat_split (x : BitVec 128) : x.toNat = (hi x).toNat * 18446744073709551616 + (lo x).toNat := by rw [hi_nat, lo_nat]; omega
theorem mul_expand (ah al bh bl B : Nat) : (ah * B + al) * (bh * B + bl) = ah * bh * (B * B) + ((ah * bl + al * bh) * B + al * bl) := by
  simp only [Nat.mul_add, Nat.add_mul]
  simp only [Nat.add_assoc]
  rw [show ah * B * (bh * B) = ah * bh * (B * B) from by ac_rfl, show al * (bh * B) = al * bh * B from by ac_rfl, show ah * B * bl = ah * bl * B from by ac_rfl]
  omega
theorem mul_parts (a b : BitVec 128) : (a * b).toNat = (((hi a).toNat * (lo b).toNat + (lo a).toNat * (hi b).toNat) * 18446744073709551616 + (lo a).toNat * (lo b).toNat) % 340282366920938463463374607431768211456 := by
  rw [BitVec.toNat_mul, nat_split a, nat_split b, mul_expand]
  rw [show (18446744073709551616 * 18446744073709551616 : Nat) = 2 ^ 128 from by decide]
  exact Nat.mul_add_mod_self_right _ _ _
theorem mul_lo (a b : BitVec 128) : lo (full (lo a) (lo b)) = lo (a * b) := by
  apply BitVec.eq_of_toNat_eq
  rw [lo_nat, lo_nat, full_nat, mul_parts]
  generalize (lo a).toNat * (lo b).toNat = p
  generalize (hi a).toNat * (lo b).toNat + (lo a).toNat * (hi b).toNat = q
  omega
theorem mul_hi (a b : BitVec 128) : hi (full (lo a) (lo b)) + (hi a * lo b + lo a * hi b) = hi (a * b) := by
  apply BitVec.eq_of_toNat_eq
  rw [BitVec.toNat_add, BitVec.toNat_add, BitVec.toNat_mul, BitVec.toNat_mul, hi_nat (full _ _), hi_nat (a * b), full_nat, mul_parts]
  generalize (lo a).toNat * (lo b).toNat = p
  generalize (hi a).toNat * (lo b).toNat = q
  generalize (lo a).toNat * (hi b).toNat = r
  omega
end Wd
end Go.Proofs.Ytpbdffmgendboab
