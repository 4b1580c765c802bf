/- Sums and products by four digits of 32 bits, in plain Lean. -/
import Derived.Test.YtpbdffmgendboabWdPlain
namespace Go.Proofs.Ytpbdffmgendboab
namespace R1
abbrev B : BitVec 64 := 4294967296#64
theorem mB (p : BitVec 64) : (p % 4294967296#64).toNat = p.toNat % 4294967296 := by rw [BitVec.toNat_umod]; rfl
theorem dB (p : BitVec 64) : (p / 4294967296#64).toNat = p.toNat / 4294967296 := by rw [BitVec.toNat_udiv]; rfl
theorem whole_nat (d0 d1 d2 d3 : BitVec 64) (h0 : d0.toNat < 4294967296) (h1 : d1.toNat < 4294967296) (h2 : d2.toNat < 4294967296) (h3 : d3.toNat < 4294967296) :
    (Wd.mk (d2 + 4294967296#64 * d3) (d0 + 4294967296#64 * d1)).toNat = d0.toNat + 4294967296 * d1.toNat + 18446744073709551616 * d2.toNat + 79228162514264337593543950336 * d3.toNat := by
  rw [Wd.mk_nat, BitVec.toNat_add, BitVec.toNat_mul, BitVec.toNat_add, BitVec.toNat_mul]
  rw [show (4294967296#64 : BitVec 64).toNat = 4294967296 from rfl]
  omega
theorem dig_nat (a : BitVec 128) : a.toNat = (Wd.lo a).toNat % 4294967296 + 4294967296 * ((Wd.lo a).toNat / 4294967296) + 18446744073709551616 * ((Wd.hi a).toNat % 4294967296) + 79228162514264337593543950336 * ((Wd.hi a).toNat / 4294967296) := by
  rw [Wd.nat_split a]; omega
theorem sum3 (p q r n : BitVec 64) (h : p + q + r = n) (hp : p.toNat < 4294967296) (hq : q.toNat < 4294967296) (hr : r.toNat < 4294967296) : n.toNat = p.toNat + q.toNat + r.toNat := by
  rw [← h, BitVec.toNat_add, BitVec.toNat_add]; omega
theorem add_dig (a b : BitVec 128) (n0 n1 n2 n3 : BitVec 64) (h0 : Wd.lo a % 4294967296#64 + Wd.lo b % 4294967296#64 + 0#64 = n0) (h1 : Wd.lo a / 4294967296#64 + Wd.lo b / 4294967296#64 + n0 / 4294967296#64 = n1)
    (h2 : Wd.hi a % 4294967296#64 + Wd.hi b % 4294967296#64 + n1 / 4294967296#64 = n2) (h3 : Wd.hi a / 4294967296#64 + Wd.hi b / 4294967296#64 + n2 / 4294967296#64 = n3) :
    Wd.mk (n2 % 4294967296#64 + 4294967296#64 * (n3 % 4294967296#64)) (n0 % 4294967296#64 + 4294967296#64 * (n1 % 4294967296#64)) = a + b ∧ (((n3 / 4294967296#64).toNat : Int) == 1) = Wd.over a b := by
  have la := (Wd.lo a).isLt; have lb := (Wd.lo b).isLt; have ha := (Wd.hi a).isLt; have hb := (Wd.hi b).isLt
  have e0 := sum3 _ _ _ _ h0 (by rw [mB]; omega) (by rw [mB]; omega) (by decide)
  have e1 := sum3 _ _ _ _ h1 (by rw [dB]; omega) (by rw [dB]; omega) (by rw [dB]; rw [mB, mB] at e0; simp at e0; omega)
  have e2 := sum3 _ _ _ _ h2 (by rw [mB]; omega) (by rw [mB]; omega) (by rw [dB]; rw [dB, dB, dB] at e1; omega)
  have e3 := sum3 _ _ _ _ h3 (by rw [dB]; omega) (by rw [dB]; omega) (by rw [dB]; rw [mB, mB, dB] at e2; omega)
  rw [mB, mB] at e0; rw [dB, dB, dB] at e1; rw [mB, mB, dB] at e2; rw [dB, dB, dB] at e3
  have e0' : n0.toNat = (Wd.lo a).toNat % 4294967296 + (Wd.lo b).toNat % 4294967296 := by simpa using e0
  refine ⟨BitVec.eq_of_toNat_eq ?_, ?_⟩
  · rw [whole_nat _ _ _ _ (by rw [mB]; omega) (by rw [mB]; omega) (by rw [mB]; omega) (by rw [mB]; omega), BitVec.toNat_add, dig_nat a, dig_nat b, mB, mB, mB, mB]
    omega
  · unfold Wd.over
    rw [dB, dig_nat a, dig_nat b]
    rw [Bool.eq_iff_iff]
    simp only [beq_iff_eq, decide_eq_true_eq]
    omega
/- products -/
theorem step3 (z x y c n : BitVec 64) (h : z + x * y + c = n) (hz : z.toNat < 4294967296) (hx : x.toNat < 4294967296) (hy : y.toNat < 4294967296) (hc : c.toNat < 4294967296) :
    n.toNat = z.toNat + x.toNat * y.toNat + c.toNat ∧ n.toNat / 4294967296 < 4294967296 := by
  have hxy : x.toNat * y.toNat ≤ 4294967295 * 4294967295 := Nat.mul_le_mul (by omega) (by omega)
  rw [← h, BitVec.toNat_add, BitVec.toNat_add, BitVec.toNat_mul]
  generalize x.toNat * y.toNat = p at hxy ⊢
  omega
theorem row4 (p0 p1 p2 p3 z0 z1 z2 z3 n0 n1 n2 n3 : Nat) (h0 : n0 = z0 + p0 + 0) (h1 : n1 = z1 + p1 + n0 / 4294967296) (h2 : n2 = z2 + p2 + n1 / 4294967296) (h3 : n3 = z3 + p3 + n2 / 4294967296) :
    (z0 + 4294967296 * z1 + 18446744073709551616 * z2 + 79228162514264337593543950336 * z3 + (p0 + 4294967296 * p1 + 18446744073709551616 * p2 + 79228162514264337593543950336 * p3)) % 340282366920938463463374607431768211456 = n0 % 4294967296 + 4294967296 * (n1 % 4294967296) + 18446744073709551616 * (n2 % 4294967296) + 79228162514264337593543950336 * (n3 % 4294967296) := by omega
theorem row3 (p0 p1 p2 z1 z2 z3 n0 n1 n2 : Nat) (h0 : n0 = z1 + p0 + 0) (h1 : n1 = z2 + p1 + n0 / 4294967296) (h2 : n2 = z3 + p2 + n1 / 4294967296) :
    (z1 + 4294967296 * z2 + 18446744073709551616 * z3 + (p0 + 4294967296 * p1 + 18446744073709551616 * p2)) % 79228162514264337593543950336 = n0 % 4294967296 + 4294967296 * (n1 % 4294967296) + 18446744073709551616 * (n2 % 4294967296) := by omega
theorem row2 (p0 p1 z2 z3 n0 n1 : Nat) (h0 : n0 = z2 + p0 + 0) (h1 : n1 = z3 + p1 + n0 / 4294967296) : (z2 + 4294967296 * z3 + (p0 + 4294967296 * p1)) % 18446744073709551616 = n0 % 4294967296 + 4294967296 * (n1 % 4294967296) := by omega
theorem expand (x0 x1 x2 x3 y0 y1 y2 y3 : Nat) : (x0 + 4294967296 * x1 + 18446744073709551616 * x2 + 79228162514264337593543950336 * x3) * (y0 + 4294967296 * y1 + 18446744073709551616 * y2 + 79228162514264337593543950336 * y3) % 340282366920938463463374607431768211456 =
    ((x0 * y0 + 4294967296 * (x0 * y1) + 18446744073709551616 * (x0 * y2) + 79228162514264337593543950336 * (x0 * y3)) + 4294967296 * (x1 * y0 + 4294967296 * (x1 * y1) + 18446744073709551616 * (x1 * y2)) + 18446744073709551616 * (x2 * y0 + 4294967296 * (x2 * y1)) + 79228162514264337593543950336 * (x3 * y0)) % 340282366920938463463374607431768211456 := by
  simp only [Nat.add_mul, Nat.mul_add, Nat.mul_assoc]
  rw [Nat.mul_left_comm x0, Nat.mul_left_comm x0, Nat.mul_left_comm x0, Nat.mul_left_comm x1, Nat.mul_left_comm x1, Nat.mul_left_comm x1, Nat.mul_left_comm x2, Nat.mul_left_comm x2, Nat.mul_left_comm x2, Nat.mul_left_comm x3, Nat.mul_left_comm x3, Nat.mul_left_comm x3]
  generalize x0 * y0 = a00; generalize x0 * y1 = a01; generalize x0 * y2 = a02; generalize x0 * y3 = a03
  generalize x1 * y0 = a10; generalize x1 * y1 = a11; generalize x1 * y2 = a12; generalize x1 * y3 = a13
  generalize x2 * y0 = a20; generalize x2 * y1 = a21; generalize x2 * y2 = a22; generalize x2 * y3 = a23
  generalize x3 * y0 = a30; generalize x3 * y1 = a31; generalize x3 * y2 = a32; generalize x3 * y3 = a33
  omega
theorem comb (S0 S1 S2 p30 a0 a1 a2 a3 b1 b2 b3 c2 c3 d3 n30 : Nat) (r4 : S0 % 340282366920938463463374607431768211456 = a0 + 4294967296 * a1 + 18446744073709551616 * a2 + 79228162514264337593543950336 * a3)
    (r3 : (a1 + 4294967296 * a2 + 18446744073709551616 * a3 + S1) % 79228162514264337593543950336 = b1 + 4294967296 * b2 + 18446744073709551616 * b3)
    (r2 : (b2 + 4294967296 * b3 + S2) % 18446744073709551616 = c2 + 4294967296 * c3) (r1 : n30 = c3 + p30) (hd : d3 = n30 % 4294967296) (ha0 : a0 < 4294967296) (hb1 : b1 < 4294967296) (hc2 : c2 < 4294967296) :
    (S0 + 4294967296 * S1 + 18446744073709551616 * S2 + 79228162514264337593543950336 * p30) % 340282366920938463463374607431768211456 = a0 + 4294967296 * b1 + 18446744073709551616 * c2 + 79228162514264337593543950336 * d3 := by omega
theorem mul_dig (a b : BitVec 128) (n00 n01 n02 n03 n10 n11 n12 n20 n21 n30 : BitVec 64)
    (h00 : (0#64) + (Wd.lo a % 4294967296#64) * (Wd.lo b % 4294967296#64) + (0#64) = n00)
    (h01 : (0#64) + (Wd.lo a % 4294967296#64) * (Wd.lo b / 4294967296#64) + (n00 / 4294967296#64) = n01)
    (h02 : (0#64) + (Wd.lo a % 4294967296#64) * (Wd.hi b % 4294967296#64) + (n01 / 4294967296#64) = n02)
    (h03 : (0#64) + (Wd.lo a % 4294967296#64) * (Wd.hi b / 4294967296#64) + (n02 / 4294967296#64) = n03)
    (h10 : (n01 % 4294967296#64) + (Wd.lo a / 4294967296#64) * (Wd.lo b % 4294967296#64) + (0#64) = n10)
    (h11 : (n02 % 4294967296#64) + (Wd.lo a / 4294967296#64) * (Wd.lo b / 4294967296#64) + (n10 / 4294967296#64) = n11)
    (h12 : (n03 % 4294967296#64) + (Wd.lo a / 4294967296#64) * (Wd.hi b % 4294967296#64) + (n11 / 4294967296#64) = n12)
    (h20 : (n11 % 4294967296#64) + (Wd.hi a % 4294967296#64) * (Wd.lo b % 4294967296#64) + (0#64) = n20)
    (h21 : (n12 % 4294967296#64) + (Wd.hi a % 4294967296#64) * (Wd.lo b / 4294967296#64) + (n20 / 4294967296#64) = n21)
    (h30 : (n21 % 4294967296#64) + (Wd.hi a / 4294967296#64) * (Wd.lo b % 4294967296#64) + (0#64) = n30) :
    Wd.mk (n20 % 4294967296#64 + 4294967296#64 * (n30 % 4294967296#64)) (n00 % 4294967296#64 + 4294967296#64 * (n10 % 4294967296#64)) = a * b := by
  have la := (Wd.lo a).isLt; have lb := (Wd.lo b).isLt; have ha := (Wd.hi a).isLt; have hb := (Wd.hi b).isLt
  obtain ⟨x0, ex0⟩ : ∃ q, Wd.lo a % 4294967296#64 = q := ⟨_, rfl⟩
  have bx0 : x0.toNat < 4294967296 := by rw [← ex0, mB]; omega
  have kx0 : x0.toNat = (Wd.lo a).toNat % 4294967296 := by rw [← ex0, mB]
  obtain ⟨x1, ex1⟩ : ∃ q, Wd.lo a / 4294967296#64 = q := ⟨_, rfl⟩
  have bx1 : x1.toNat < 4294967296 := by rw [← ex1, dB]; omega
  have kx1 : x1.toNat = (Wd.lo a).toNat / 4294967296 := by rw [← ex1, dB]
  obtain ⟨x2, ex2⟩ : ∃ q, Wd.hi a % 4294967296#64 = q := ⟨_, rfl⟩
  have bx2 : x2.toNat < 4294967296 := by rw [← ex2, mB]; omega
  have kx2 : x2.toNat = (Wd.hi a).toNat % 4294967296 := by rw [← ex2, mB]
  obtain ⟨x3, ex3⟩ : ∃ q, Wd.hi a / 4294967296#64 = q := ⟨_, rfl⟩
  have bx3 : x3.toNat < 4294967296 := by rw [← ex3, dB]; omega
  have kx3 : x3.toNat = (Wd.hi a).toNat / 4294967296 := by rw [← ex3, dB]
  obtain ⟨y0, ey0⟩ : ∃ q, Wd.lo b % 4294967296#64 = q := ⟨_, rfl⟩
  have by0 : y0.toNat < 4294967296 := by rw [← ey0, mB]; omega
  have ky0 : y0.toNat = (Wd.lo b).toNat % 4294967296 := by rw [← ey0, mB]
  obtain ⟨y1, ey1⟩ : ∃ q, Wd.lo b / 4294967296#64 = q := ⟨_, rfl⟩
  have by1 : y1.toNat < 4294967296 := by rw [← ey1, dB]; omega
  have ky1 : y1.toNat = (Wd.lo b).toNat / 4294967296 := by rw [← ey1, dB]
  obtain ⟨y2, ey2⟩ : ∃ q, Wd.hi b % 4294967296#64 = q := ⟨_, rfl⟩
  have by2 : y2.toNat < 4294967296 := by rw [← ey2, mB]; omega
  have ky2 : y2.toNat = (Wd.hi b).toNat % 4294967296 := by rw [← ey2, mB]
  obtain ⟨y3, ey3⟩ : ∃ q, Wd.hi b / 4294967296#64 = q := ⟨_, rfl⟩
  have by3 : y3.toNat < 4294967296 := by rw [← ey3, dB]; omega
  have ky3 : y3.toNat = (Wd.hi b).toNat / 4294967296 := by rw [← ey3, dB]
  have z0 : (0#64 : BitVec 64).toNat < 4294967296 := by decide
  have m (p : BitVec 64) : (p % 4294967296#64).toNat < 4294967296 := by rw [mB]; omega
  rw [ex0, ey0] at h00
  obtain ⟨e00, c00⟩ := step3 _ _ _ _ _ h00 z0 bx0 by0 z0
  rw [ex0, ey1] at h01
  obtain ⟨e01, c01⟩ := step3 _ _ _ _ _ h01 z0 bx0 by1 (by rw [dB]; exact c00)
  rw [ex0, ey2] at h02
  obtain ⟨e02, c02⟩ := step3 _ _ _ _ _ h02 z0 bx0 by2 (by rw [dB]; exact c01)
  rw [ex0, ey3] at h03
  obtain ⟨e03, c03⟩ := step3 _ _ _ _ _ h03 z0 bx0 by3 (by rw [dB]; exact c02)
  rw [ex1, ey0] at h10
  obtain ⟨e10, c10⟩ := step3 _ _ _ _ _ h10 (m _) bx1 by0 z0
  rw [ex1, ey1] at h11
  obtain ⟨e11, c11⟩ := step3 _ _ _ _ _ h11 (m _) bx1 by1 (by rw [dB]; exact c10)
  rw [ex1, ey2] at h12
  obtain ⟨e12, c12⟩ := step3 _ _ _ _ _ h12 (m _) bx1 by2 (by rw [dB]; exact c11)
  rw [ex2, ey0] at h20
  obtain ⟨e20, c20⟩ := step3 _ _ _ _ _ h20 (m _) bx2 by0 z0
  rw [ex2, ey1] at h21
  obtain ⟨e21, c21⟩ := step3 _ _ _ _ _ h21 (m _) bx2 by1 (by rw [dB]; exact c20)
  rw [ex3, ey0] at h30
  obtain ⟨e30, c30⟩ := step3 _ _ _ _ _ h30 (m _) bx3 by0 z0
  rw [show (0#64 : BitVec 64).toNat = 0 from rfl] at *
  rw [dB] at e01
  rw [dB] at e02
  rw [dB] at e03
  rw [mB] at e10
  rw [mB, dB] at e11
  rw [mB, dB] at e12
  rw [mB] at e20
  rw [mB, dB] at e21
  rw [mB] at e30
  have r4 := row4 (x0.toNat * y0.toNat) (x0.toNat * y1.toNat) (x0.toNat * y2.toNat) (x0.toNat * y3.toNat) 0 0 0 0 _ _ _ _ e00 e01 e02 e03
  have r3 := row3 (x1.toNat * y0.toNat) (x1.toNat * y1.toNat) (x1.toNat * y2.toNat) _ _ _ _ _ _ e10 e11 e12
  have r2 := row2 (x2.toNat * y0.toNat) (x2.toNat * y1.toNat) _ _ _ _ e20 e21
  refine BitVec.eq_of_toNat_eq ?_
  rw [whole_nat _ _ _ _ (m _) (m _) (m _) (m _), BitVec.toNat_mul, dig_nat a, dig_nat b, ← kx0, ← kx1, ← kx2, ← kx3, ← ky0, ← ky1, ← ky2, ← ky3]
  rw [show (2 ^ 128 : Nat) = 340282366920938463463374607431768211456 from rfl, expand, mB, mB, mB, mB]
  simp only [Nat.zero_add, Nat.mul_zero, Nat.add_zero] at r4 e30
  exact (comb _ _ _ _ _ _ _ _ _ _ _ _ _ _ _ r4 r3 r2 e30 rfl (Nat.mod_lt _ (by omega)) (Nat.mod_lt _ (by omega)) (Nat.mod_lt _ (by omega))).symm
/- differences -/
theorem cB (p : BitVec 64) (h : p.toNat < 4294967296) : (4294967295#64 - p).toNat = 4294967295 - p.toNat := by
  rw [BitVec.toNat_sub, show (4294967295#64 : BitVec 64).toNat = 4294967295 from rfl]; omega
theorem compl (b : BitVec 128) : (Wd.mk ((4294967295#64 - Wd.hi b % 4294967296#64) + 4294967296#64 * (4294967295#64 - Wd.hi b / 4294967296#64)) ((4294967295#64 - Wd.lo b % 4294967296#64) + 4294967296#64 * (4294967295#64 - Wd.lo b / 4294967296#64))).toNat = 340282366920938463463374607431768211455 - b.toNat := by
  have lb := (Wd.lo b).isLt; have hb := (Wd.hi b).isLt
  have m (p : BitVec 64) : (p % 4294967296#64).toNat < 4294967296 := by rw [mB]; omega
  have d (p : BitVec 64) : (p / 4294967296#64).toNat < 4294967296 := by rw [dB]; have := p.isLt; omega
  rw [whole_nat _ _ _ _ (by rw [cB _ (m _)]; omega) (by rw [cB _ (d _)]; omega) (by rw [cB _ (m _)]; omega) (by rw [cB _ (d _)]; omega), cB _ (m _), cB _ (d _), cB _ (m _), cB _ (d _), mB, dB, mB, dB, dig_nat b]
  omega
theorem sub_dig (a b X : BitVec 128) (h : X.toNat = 340282366920938463463374607431768211455 - b.toNat) : a + X + 1#128 = a - b := by
  apply BitVec.eq_of_toNat_eq
  have ha := a.isLt; have hb := b.isLt
  rw [BitVec.toNat_add, BitVec.toNat_add, BitVec.toNat_sub, h, show (1#128 : BitVec 128).toNat = 1 from rfl]
  omega
theorem less_t {a b : BitVec 128} (h : (Wd.hi a).toNat < (Wd.hi b).toNat) : Wd.less a b = true := by
  unfold Wd.less; rw [Wd.nat_split a, Wd.nat_split b]; have := (Wd.lo a).isLt; have := (Wd.lo b).isLt; exact decide_eq_true (by omega)
theorem less_g {a b : BitVec 128} (h : (Wd.hi b).toNat < (Wd.hi a).toNat) : Wd.less a b = false := by
  unfold Wd.less; rw [Wd.nat_split a, Wd.nat_split b]; have := (Wd.lo a).isLt; have := (Wd.lo b).isLt; exact decide_eq_false (by omega)
theorem less_e {a b : BitVec 128} (h : (Wd.hi a).toNat = (Wd.hi b).toNat) : Wd.less a b = decide ((Wd.lo a).toNat < (Wd.lo b).toNat) := by
  unfold Wd.less; rw [Wd.nat_split a, Wd.nat_split b, h]; exact decide_eq_decide.2 (by omega)
end R1
end Go.Proofs.Ytpbdffmgendboab
