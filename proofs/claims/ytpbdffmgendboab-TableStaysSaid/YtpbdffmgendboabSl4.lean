/- Lists of bits: how many; powers from the highest bit on. -/
import Derived.Test.YtpbdffmgendboabSl3
import Derived.Test.YtpbdffmgendboabAfPlain
namespace Go.Proofs.Ytpbdffmgendboab
open Go Go.RowKit
namespace Bi
def lenN (f : Nat → Bool) : Nat → Nat
  | 0 => 0
  | i + 1 => if f i = true then i + 1 else lenN f i
def len (x : BitVec 128) : Nat := lenN x.getLsbD 128
theorem lenN_le (f : Nat → Bool) : ∀ i, lenN f i ≤ i
  | 0 => Nat.le_refl _
  | i + 1 => by unfold lenN; split; exact Nat.le_refl _; exact Nat.le_succ_of_le (lenN_le f i)
theorem len_le (x : BitVec 128) : len x ≤ 128 := lenN_le _ _
theorem lenN_above (f : Nat → Bool) : ∀ i j, lenN f i ≤ j → j < i → f j = false
  | 0, j, _, h => by omega
  | i + 1, j, hl, h => by
    unfold lenN at hl
    by_cases hf : f i = true
    · rw [if_pos hf] at hl; omega
    · rw [if_neg hf] at hl
      by_cases e : j = i
      · subst e; simpa using hf
      · exact lenN_above f i j hl (by omega)
theorem len_shift (x : BitVec 128) : x.toNat / 2 ^ len x = 0 := by
  rw [← Nat.shiftRight_eq_div_pow]
  apply Nat.eq_of_testBit_eq
  intro i
  rw [Nat.testBit_shiftRight, Nat.zero_testBit]
  by_cases h : len x + i < 128
  · exact lenN_above x.getLsbD 128 (len x + i) (by unfold len; omega) h
  · exact BitVec.getLsbD_of_ge x _ (by omega)
theorem div_bit (x : BitVec 128) (t : Nat) : x.toNat / 2 ^ t = 2 * (x.toNat / 2 ^ (t + 1)) + (x.getLsbD t).toNat := by
  have h : (x.getLsbD t).toNat = x.toNat / 2 ^ t % 2 := by
    rw [BitVec.getLsbD, Nat.testBit_eq_decide_div_mod_eq]
    rcases Nat.mod_two_eq_zero_or_one (x.toNat / 2 ^ t) with e | e <;> simp [e]
  rw [h, Nat.pow_succ, ← Nat.div_div_eq_div_mul]
  omega
theorem pow_dbl0 (m : Af.Map) (x : BitVec 128) (t : Nat) (h : x.getLsbD t = false) : Af.thn (Af.pow m (x.toNat / 2 ^ (t + 1))) (Af.pow m (x.toNat / 2 ^ (t + 1))) = Af.pow m (x.toNat / 2 ^ t) := by
  rw [Af.pow_add, div_bit x t, h]; congr 1; simp; omega
theorem pow_dbl1 (m : Af.Map) (x : BitVec 128) (t : Nat) (h : x.getLsbD t = true) : Af.thn (Af.thn (Af.pow m (x.toNat / 2 ^ (t + 1))) (Af.pow m (x.toNat / 2 ^ (t + 1)))) m = Af.pow m (x.toNat / 2 ^ t) := by
  rw [Af.pow_add, div_bit x t, h]
  show Af.pow m (_ + 1) = _
  congr 1; simp; omega
end Bi
namespace Sx
section
variable {P : Program} {w0 w : World} {a : Act} {o : Oper} {n : Nat} {kv : List (Nat × Value)}
theorem d_ixR {x y : Operand} {t E : TypeId} {bytes k len cap g : Nat} {kd : IntKind} {j : Int} (hT : elemT P t E 1 bytes) (F : Fr n a kv) (ho : o.op = .indexAddr t x y) (hx : ev kv x = some (.slice (some ⟨g, 0, none⟩) len cap)) (hy : ev kv y = some (.int kd j)) (hj : j = (k : Int)) (hk : k < len) :
    Does P o a w (fun y w' => y = .pointer (some ⟨g, k, none⟩) ∧ w' = w) := by
  have := d_ix1 (w := w) hT F ho hx rfl hy hj hk
  rw [Nat.zero_add] at this
  exact this
end
end Sx
end Go.Proofs.Ytpbdffmgendboab
