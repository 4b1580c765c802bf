/- half's jumps bit by bit: plain; half.Words in a list's form. -/
import Derived.Test.YtpbdffmgendboaaSl6
import Derived.Test.YtpbdffmgendboaaR12
import Derived.Test.YtpbdffmgendboaaPhB
namespace Go.Proofs.Ytpbdffmgendboaa
open Go Go.RowKit
namespace Hf
def bigA (c : BitVec 128) (b : Bool) : BitVec 129 := BitVec.ofNat 129 (2 * c.toNat + b.toNat)
def bigB (n : BitVec 128) : BitVec 129 := n.setWidth 129
theorem bigA_nat (c : BitVec 128) (b : Bool) : (bigA c b).toNat = 2 * c.toNat + b.toNat := by
  unfold bigA
  rw [BitVec.toNat_ofNat]; have := c.isLt; have := Bi.bl b; omega
theorem bigA_bit (c : BitVec 128) (b : Bool) (i : Nat) (hi : i < 129) : (bigA c b).getLsbD i = if i < 1 then b else c.getLsbD (i - 1) := by
  have hb := Bi.bl b
  rw [BitVec.getLsbD, bigA_nat]
  rcases i with _ | i
  · rw [if_pos (by decide), Nat.testBit_zero]
    cases b <;> simp <;> omega
  · rw [if_neg (by omega), Nat.testBit_succ, show (2 * c.toNat + b.toNat) / 2 = c.toNat from by omega]; rfl
theorem rowA (c : BitVec 128) (b : Bool) : [Value.int .i64 ((b.toNat : Nat) : Int)] ++ Bi.bis (BitVec.getLsbD c) 128 = Bi.bis (BitVec.getLsbD (bigA c b)) 129 := by
  have e := Bi.app (fun _ => b) (BitVec.getLsbD c) 1 128
  refine (show _ = Bi.bis (fun _ => b) 1 ++ _ from rfl).trans (e.trans ?_)
  exact Bi.congr (fun i hi => (bigA_bit c b i hi).symm)
theorem rowB (n : BitVec 128) : ([] ++ Bi.bis (BitVec.getLsbD n) 128) ++ [Value.int .i64 0] = Bi.bis (BitVec.getLsbD (bigB n)) 129 := by
  rw [List.nil_append, Bi.snoc (BitVec.getLsbD (bigB n)) 128]
  have h : (bigB n).getLsbD 128 = false := by unfold bigB; rw [BitVec.getLsbD_setWidth, BitVec.getLsbD_of_ge n 128 (by omega)]; simp
  rw [h, show Bi.bis (BitVec.getLsbD (bigB n)) 128 = Bi.bis (BitVec.getLsbD n) 128 from Bi.congr (fun i hi => ?_)]
  · rfl
  unfold bigB; rw [BitVec.getLsbD_setWidth, decide_eq_true (by omega : i < 129), Bool.true_and]
def sumf (c : BitVec 128) (b : Bool) (n : BitVec 128) : Nat → Bool := Bi.sumb (BitVec.getLsbD (bigA c b)) (BitVec.getLsbD (bigB n)) 129
def farb (c : BitVec 128) (b : Bool) (n : BitVec 128) (i : Nat) : Bool := (bigA c b + bigB n).getLsbD (1 + i)
theorem sum_at (c : BitVec 128) (b : Bool) (n : BitVec 128) (i : Nat) (hi : i < 129) : sumf c b n i = (bigA c b + bigB n).getLsbD i := by
  unfold sumf Bi.sumb; rw [if_pos hi, Bi.sb_eq _ _ _ hi]
theorem far_at (c : BitVec 128) (b : Bool) (n : BitVec 128) (i : Nat) (hi : i < 128) : sumf c b n (1 + i) = farb c b n i := sum_at c b n (1 + i) (by omega)
theorem far_nat (c : BitVec 128) (b : Bool) (n : BitVec 128) : (Bi.of (farb c b n) 128).toNat = (bigA c b + bigB n).toNat / 2 := by
  have e : Bi.of (farb c b n) 128 = ((bigA c b + bigB n) >>> 1).setWidth 128 := by
    refine Bi.of_eq _ _ _ (fun i hi => ?_)
    rw [BitVec.getLsbD_setWidth, BitVec.getLsbD_ushiftRight]; rfl
  rw [e, BitVec.toNat_setWidth, BitVec.toNat_ushiftRight, Nat.shiftRight_eq_div_pow]
  have := (bigA c b + bigB n).isLt
  omega
theorem bit0 (x : BitVec 129) : (x.getLsbD 0).toNat = x.toNat % 2 := by
  rw [BitVec.getLsbD, Nat.testBit_zero]
  rcases Nat.mod_two_eq_zero_or_one x.toNat with e | e <;> rw [e] <;> rfl
theorem is1 (b : Bool) : (((b.toNat : Nat) : Int) == 1) = b := by cases b <;> rfl
theorem far_eq (c : BitVec 128) (k0 k1 : BitVec 32) (b : Bool) (n : BitVec 128) : (⟨Bi.of (farb c b n) 128, k0, k1, (((sumf c b n 0).toNat : Nat) : Int) == 1⟩ : St) = jump ⟨c, k0, k1, b⟩ n := by
  rw [is1, sum_at c b n 0 (by omega)]
  refine st_ext (jump_k0 ⟨c, k0, k1, b⟩ n).symm (jump_k1 ⟨c, k0, k1, b⟩ n).symm ?_
  rw [jump_pos]
  unfold pos
  rw [far_nat, bit0, BitVec.toNat_add, bigA_nat]
  unfold bigB
  rw [BitVec.toNat_setWidth]
  have := n.isLt
  unfold R
  show 2 * ((2 * c.toNat + b.toNat + n.toNat % 2 ^ 129) % 2 ^ 129 / 2) + (2 * c.toNat + b.toNat + n.toNat % 2 ^ 129) % 2 ^ 129 % 2 = (2 * c.toNat + b.toNat + n.toNat) % 680564733841876926926749214863536422912
  omega
theorem low_eq (x : BitVec 64) : BitVec.setWidth 32 (x % 4294967296#64) = low x := by
  apply BitVec.eq_of_toNat_eq
  unfold low
  rw [BitVec.toNat_setWidth, BitVec.toNat_setWidth, BitVec.toNat_umod, show (4294967296#64 : BitVec 64).toNat = 4294967296 from rfl]; omega
theorem top_eq (x : BitVec 64) : BitVec.setWidth 32 (x / 4294967296#64) = top x := by
  apply BitVec.eq_of_toNat_eq
  unfold top
  rw [BitVec.toNat_setWidth, BitVec.toNat_setWidth, BitVec.toNat_udiv, BitVec.toNat_ushiftRight, Nat.shiftRight_eq_div_pow, show (4294967296#64 : BitVec 64).toNat = 4294967296 from rfl]
theorem pair_add (l h : BitVec 32) : BitVec.setWidth 64 l + 4294967296#64 * BitVec.setWidth 64 h = pair l h := by
  apply BitVec.eq_of_toNat_eq
  rw [pair_nat, BitVec.toNat_add, BitVec.toNat_mul, BitVec.toNat_setWidth, BitVec.toNat_setWidth, show (4294967296#64 : BitVec 64).toNat = 4294967296 from rfl]
  have := l.isLt; have := h.isLt; omega
theorem word_t (c : BitVec 128) (k0 k1 : BitVec 32) : word ⟨c, k0, k1, true⟩ = pair (Ph.mix 10 (blk c) ⟨k0, k1⟩).c (Ph.mix 10 (blk c) ⟨k0, k1⟩).d := rfl
theorem word_f (c : BitVec 128) (k0 k1 : BitVec 32) : word ⟨c, k0, k1, false⟩ = pair (Ph.mix 10 (blk c) ⟨k0, k1⟩).a (Ph.mix 10 (blk c) ⟨k0, k1⟩).b := rfl
end Hf
theorem hwordsN_c (n : Nat) (hn : n ≤ 256) (c : BitVec 128) (k0 k1 : BitVec 32) (b : Bool) (w : World) :
    Calls Try.prog 46 #[.agg #[.int .u64 (Wd.hi c).toNat, .int .u64 (Wd.lo c).toNat, .int .u32 k0.toNat, .int .u32 k1.toNat, .bool b], .int .i64 n] w fun e w' => ∃ v, e = .returned (.tuple #[v, .agg #[.int .u64 (Wd.hi (Hf.it n ⟨c, k0, k1, b⟩).c).toNat, .int .u64 (Wd.lo (Hf.it n ⟨c, k0, k1, b⟩).c).toNat, .int .u32 (Hf.it n ⟨c, k0, k1, b⟩).k0.toNat, .int .u32 (Hf.it n ⟨c, k0, k1, b⟩).k1.toNat, .bool (Hf.it n ⟨c, k0, k1, b⟩).b], .int .i64 0]) ∧ w'.ownsRow w.heap.size 22 1 v n (u64s (Hf.words n ⟨c, k0, k1, b⟩)) ∧ Below w.heap.size w w' := by
  refine Calls.mono (hwords_ok n hn c k0 k1 b w) ?_
  rintro e w' ⟨v, he, ho, hb⟩
  exact ⟨v, he, owns_mono ho (by omega), hb⟩
theorem rmixb_c (c : BitVec 128) (k0 k1 : BitVec 32) (w : World) : Calls Try.prog 71 #[.agg #[.int .u32 (Hf.low (Wd.lo c)).toNat, .int .u32 (Hf.top (Wd.lo c)).toNat, .int .u32 (Hf.low (Wd.hi c)).toNat, .int .u32 (Hf.top (Wd.hi c)).toNat], .agg #[.int .u32 k0.toNat, .int .u32 k1.toNat], .int .i64 10] w fun e w' =>
    e = .returned (.agg #[.int .u32 (Ph.mix 10 (Hf.blk c) ⟨k0, k1⟩).a.toNat, .int .u32 (Ph.mix 10 (Hf.blk c) ⟨k0, k1⟩).b.toNat, .int .u32 (Ph.mix 10 (Hf.blk c) ⟨k0, k1⟩).c.toNat, .int .u32 (Ph.mix 10 (Hf.blk c) ⟨k0, k1⟩).d.toNat]) ∧ Below w.heap.size w w' :=
  rmix_c 10 (by decide) _ _ _ _ k0 k1 w
end Go.Proofs.Ytpbdffmgendboaa
