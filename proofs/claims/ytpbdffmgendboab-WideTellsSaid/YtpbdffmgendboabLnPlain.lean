/- How many bits a number has; which of two is greater: in plain Lean. -/
import Derived.Test.YtpbdffmgendboabSl4
import Derived.Test.YtpbdffmgendboabWsPlain
namespace Go.Proofs.Ytpbdffmgendboab
namespace Bi
theorem lenN_char (f : Nat → Bool) : ∀ (i k : Nat), k ≤ i → (∀ j, k ≤ j → j < i → f j = false) → (k = 0 ∨ f (k - 1) = true) → lenN f i = k
  | 0, k, h, _, _ => by have : k = 0 := by omega
                        subst this; rfl
  | i + 1, k, h, ha, ht => by
    show (if f i = true then i + 1 else lenN f i) = k
    by_cases e : k = i + 1
    · rcases ht with h0 | h1
      · omega
      · rw [e, Nat.add_sub_cancel] at h1; rw [if_pos h1, e]
    · rw [if_neg (by rw [ha i (by omega) (by omega)]; decide)]
      exact lenN_char f i k (by omega) (fun j h1 h2 => ha j h1 (by omega)) ht
theorem lenN_top (f : Nat → Bool) : ∀ (i k : Nat), lenN f i = k + 1 → f k = true
  | 0, _, h => by cases h
  | i + 1, k, h => by
    unfold lenN at h
    by_cases e : f i = true
    · rw [if_pos e] at h; have : i = k := by omega
      subst this; exact e
    · rw [if_neg e] at h; exact lenN_top f i k h
theorem lenN_two (f : Nat → Bool) : ∀ m, lenN f (64 + m) = if lenN (fun j => f (64 + j)) m = 0 then lenN f 64 else 64 + lenN (fun j => f (64 + j)) m
  | 0 => rfl
  | m + 1 => by
    show (if f (64 + m) = true then 64 + m + 1 else lenN f (64 + m)) = if (if f (64 + m) = true then m + 1 else lenN (fun j => f (64 + j)) m) = 0 then lenN f 64 else 64 + (if f (64 + m) = true then m + 1 else lenN (fun j => f (64 + j)) m)
    by_cases e : f (64 + m) = true
    · rw [if_pos e, if_pos e, if_neg (by omega)]; rfl
    · rw [if_neg e, if_neg e, lenN_two f m]
theorem lenN_same {f g : Nat → Bool} : ∀ i, (∀ j, j < i → f j = g j) → lenN f i = lenN g i
  | 0, _ => rfl
  | i + 1, h => by
    show (if f i = true then i + 1 else lenN f i) = (if g i = true then i + 1 else lenN g i)
    rw [h i (by omega), lenN_same i (fun j hj => h j (by omega))]
theorem len_zero (x : BitVec 128) : len x = 0 ↔ x = 0#128 := by
  constructor
  · intro h
    apply BitVec.eq_of_getLsbD_eq
    intro i hi
    rw [lenN_above x.getLsbD 128 i (by unfold len at h; omega) hi]; simp
  · rintro rfl
    exact lenN_char _ 128 0 (by decide) (fun j _ _ => by simp) (Or.inl rfl)
theorem len_top (x : BitVec 128) (h : len x ≠ 0) : x.getLsbD (len x - 1) = true := by
  obtain ⟨k, hk⟩ := Nat.exists_eq_succ_of_ne_zero h
  have := lenN_top x.getLsbD 128 k hk
  rw [show len x - 1 = k from by omega]; exact this
theorem len_right (x : BitVec 128) : x >>> len x = 0#128 := by
  apply BitVec.eq_of_toNat_eq
  rw [BitVec.toNat_ushiftRight, Nat.shiftRight_eq_div_pow, len_shift]; rfl
end Bi
namespace Ln
def l8 (k : Nat) : Nat := if k = 0 then 0 else Nat.log2 k + 1
def tab8 : ByteArray := ⟨#[0, 1, 2, 2, 3, 3, 3, 3, 4, 4, 4, 4, 4, 4, 4, 4, 5, 5, 5, 5, 5, 5, 5, 5, 5, 5, 5, 5, 5, 5, 5, 5, 6, 6, 6, 6, 6, 6, 6, 6, 6, 6, 6, 6, 6, 6, 6, 6, 6, 6, 6, 6, 6, 6, 6, 6, 6, 6, 6, 6, 6, 6, 6, 6, 7, 7, 7, 7, 7, 7, 7, 7, 7, 7, 7, 7, 7, 7, 7, 7, 7, 7, 7, 7, 7, 7, 7, 7, 7, 7, 7, 7, 7, 7, 7, 7, 7, 7, 7, 7, 7, 7, 7, 7, 7, 7, 7, 7, 7, 7, 7, 7, 7, 7, 7, 7, 7, 7, 7, 7, 7, 7, 7, 7, 7, 7, 7, 7, 8, 8, 8, 8, 8, 8, 8, 8, 8, 8, 8, 8, 8, 8, 8, 8, 8, 8, 8, 8, 8, 8, 8, 8, 8, 8, 8, 8, 8, 8, 8, 8, 8, 8, 8, 8, 8, 8, 8, 8, 8, 8, 8, 8, 8, 8, 8, 8, 8, 8, 8, 8, 8, 8, 8, 8, 8, 8, 8, 8, 8, 8, 8, 8, 8, 8, 8, 8, 8, 8, 8, 8, 8, 8, 8, 8, 8, 8, 8, 8, 8, 8, 8, 8, 8, 8, 8, 8, 8, 8, 8, 8, 8, 8, 8, 8, 8, 8, 8, 8, 8, 8, 8, 8, 8, 8, 8, 8, 8, 8, 8, 8, 8, 8, 8, 8, 8, 8, 8, 8, 8, 8, 8, 8, 8, 8, 8, 8]⟩
theorem tabs : ∀ k : Fin 256, (tab8.data.toList[k.1]?).map UInt8.toNat = some (l8 k.1) := by decide +kernel
theorem tab (k : Nat) (h : k < 256) : (tab8.data.toList[k]?).map UInt8.toNat = some (l8 k) := tabs ⟨k, h⟩
theorem l8s : ∀ k : Fin 256, l8 k.1 ≤ 8 ∧ k.1 < 2 ^ l8 k.1 ∧ (k.1 = 0 ∧ l8 k.1 = 0 ∨ 1 ≤ l8 k.1 ∧ 2 ^ (l8 k.1 - 1) ≤ k.1) := by decide +kernel
def len64 (x : BitVec 64) : Nat := Bi.lenN x.getLsbD 64
theorem len64_le (x : BitVec 64) : len64 x ≤ 64 := Bi.lenN_le _ _
theorem bits_of (x : BitVec 64) (k : Nat) (hk : k ≤ 64) (h1 : x.toNat < 2 ^ k) (h2 : k = 0 ∨ 2 ^ (k - 1) ≤ x.toNat) : len64 x = k := by
  refine Bi.lenN_char _ 64 k hk (fun j hj _ => ?_) (h2.imp id (fun h => ?_))
  · rw [BitVec.getLsbD]
    exact Nat.testBit_lt_two_pow (Nat.lt_of_lt_of_le h1 (Nat.pow_le_pow_right (by decide) hj))
  · rw [BitVec.getLsbD, Nat.testBit_eq_decide_div_mod_eq, decide_eq_true_iff]
    by_cases h0 : k = 0
    · subst h0; rw [show x.toNat = 0 from by simpa using h1] at h; exact absurd h (by decide)
    · have e : 2 ^ k = 2 * 2 ^ (k - 1) := by rw [← Nat.pow_succ']; congr 1; omega
      have : x.toNat / 2 ^ (k - 1) = 1 := by
        refine Nat.div_eq_of_lt_le (by omega) (by omega)
      rw [this]
theorem way (x : BitVec 64) (s y : Nat) (hy : x.toNat / 2 ^ s = y) (hs : s ≤ 56) (hlt : y < 256) (h1 : s = 0 ∨ 1 ≤ y) : s + l8 (y % 256) = len64 x := by
  rw [Nat.mod_eq_of_lt hlt]
  obtain ⟨a, b, c⟩ := l8s ⟨y, hlt⟩
  dsimp only at a b c
  have hp : 0 < 2 ^ s := Nat.pow_pos (by decide)
  refine (bits_of x (s + l8 y) (by omega) ?_ ?_).symm
  · have : x.toNat / 2 ^ s < 2 ^ l8 y := by rw [hy]; exact b
    rw [Nat.div_lt_iff_lt_mul hp] at this
    rw [Nat.add_comm, Nat.pow_add]; exact this
  · rcases c with ⟨h, h'⟩ | ⟨h, h'⟩
    · left; omega
    · right
      have : 2 ^ (l8 y - 1) ≤ x.toNat / 2 ^ s := by rw [hy]; exact h'
      rw [Nat.le_div_iff_mul_le hp] at this
      rw [show s + l8 y - 1 = (l8 y - 1) + s from by omega, Nat.pow_add]; exact this
theorem len_big (a : BitVec 128) (h : 0 < (Wd.hi a).toNat) : 64 + len64 (Wd.hi a) = Bi.len a := by
  have hne : len64 (Wd.hi a) ≠ 0 := by
    intro e
    have : Wd.hi a = 0#64 := BitVec.eq_of_getLsbD_eq (fun i hi => by
      rw [Bi.lenN_above (Wd.hi a).getLsbD 64 i (by unfold len64 at e; omega) hi]; simp)
    rw [this] at h; exact absurd h (by decide)
  unfold Bi.len
  show _ = Bi.lenN a.getLsbD (64 + 64)
  rw [Bi.lenN_two, Bi.lenN_same (f := fun j => a.getLsbD (64 + j)) (g := (Wd.hi a).getLsbD) 64 (fun j hj => (Wd.hi_bit a j hj).symm), if_neg (show ¬ Bi.lenN (Wd.hi a).getLsbD 64 = 0 from hne)]; rfl
theorem len_small (a : BitVec 128) (h : (Wd.hi a).toNat = 0) : len64 (Wd.lo a) = Bi.len a := by
  have h0 : Wd.hi a = 0#64 := BitVec.eq_of_toNat_eq h
  have e : Bi.lenN (fun j => a.getLsbD (64 + j)) 64 = 0 := Bi.lenN_char _ 64 0 (by decide) (fun j _ hj => by rw [← Wd.hi_bit a j hj, h0]; simp) (Or.inl rfl)
  unfold Bi.len
  show _ = Bi.lenN a.getLsbD (64 + 64)
  rw [Bi.lenN_two, if_pos e]
  exact Bi.lenN_same 64 (fun j hj => Wd.lo_bit a j hj)
end Ln
namespace Wd
/-- which one is greater -/
def cmpN (x y : Nat) : Int := if x < y then -1 else if x = y then 0 else 1
theorem cmpN_lt {x y : Nat} (h : x < y) : cmpN x y = -1 := if_pos h
theorem cmpN_eq {x y : Nat} (h : x = y) : cmpN x y = 0 := by unfold cmpN; rw [if_neg (by omega), if_pos h]
theorem cmpN_gt {x y : Nat} (h : y < x) : cmpN x y = 1 := by unfold cmpN; rw [if_neg (by omega), if_neg (by omega)]
def cmp (a b : BitVec 128) : Int := cmpN a.toNat b.toNat
theorem cmp_hi (a b : BitVec 128) (h : (hi a).toNat ≠ (hi b).toNat) : cmpN (hi a).toNat (hi b).toNat = cmp a b := by
  have := nat_split a; have := nat_split b
  have := (lo a).isLt; have := (lo b).isLt
  unfold cmp
  rcases Nat.lt_trichotomy (hi a).toNat (hi b).toNat with l | l | l
  · rw [cmpN_lt l, cmpN_lt (by omega)]
  · exact absurd l h
  · rw [cmpN_gt l, cmpN_gt (by omega)]
theorem cmp_lo (a b : BitVec 128) (h : (hi a).toNat = (hi b).toNat) : cmpN (lo a).toNat (lo b).toNat = cmp a b := by
  have := nat_split a; have := nat_split b
  unfold cmp
  rcases Nat.lt_trichotomy (lo a).toNat (lo b).toNat with l | l | l
  · rw [cmpN_lt l, cmpN_lt (by omega)]
  · rw [cmpN_eq l, cmpN_eq (by omega)]
  · rw [cmpN_gt l, cmpN_gt (by omega)]
/-- a place that is not there has no bit -/
theorem bit_big (a : BitVec 128) (i : Nat) (h : 128 ≤ i) : bit a i = 0 := by
  unfold bit; rw [BitVec.getLsbD_of_ge a i h]; rfl
/-- by ten, in two parts -/
theorem ten_hi (a : BitVec 128) : (hi a / 10#64).toNat = a.toNat / 10 / 18446744073709551616 := by
  rw [BitVec.toNat_udiv, hi_nat, show (10#64).toNat = 10 from rfl]; omega
theorem ten_lo (a : BitVec 128) : ((hi a).toNat % 10 * 18446744073709551616 + (lo a).toNat) / 10 = a.toNat / 10 % 18446744073709551616 := by
  have := nat_split a; have := (lo a).isLt; omega
theorem ten_rest (a : BitVec 128) : ((hi a).toNat % 10 * 18446744073709551616 + (lo a).toNat) % 10 = a.toNat % 10 := by
  have := nat_split a; omega
end Wd
end Go.Proofs.Ytpbdffmgendboab
