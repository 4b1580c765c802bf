/- '==' on numbers of 128 bits, by name. -/
import Derived.Test.YtpbdffmgendboabWdB
namespace Go.Proofs.Ytpbdffmgendboab
open Go Go.RowKit
def Wd.eqb (a b : BitVec 128) : Bool := decide (a = b)
theorem eqb_nat (a b : BitVec 128) : Wd.eqb a b = (((Wd.hi a).toNat : Int) == ((Wd.hi b).toNat : Int) && ((Wd.lo a).toNat : Int) == ((Wd.lo b).toNat : Int)) := by
  unfold Wd.eqb
  by_cases h : a = b
  · subst h; simp
  · rw [decide_eq_false h]
    by_cases h1 : Wd.hi a = Wd.hi b
    · have h2 : Wd.lo a ≠ Wd.lo b := fun e => h (Wd.ext h1 e)
      have : (((Wd.lo a).toNat : Int) == ((Wd.lo b).toNat : Int)) = false := beq_false_of_ne (fun e => h2 (BitVec.eq_of_toNat_eq (by omega)))
      rw [this, Bool.and_false]
    · have : (((Wd.hi a).toNat : Int) == ((Wd.hi b).toNat : Int)) = false := beq_false_of_ne (fun e => h1 (BitVec.eq_of_toNat_eq (by omega)))
      rw [this, Bool.false_and]
theorem Try.eqV_raw (w : World) (d : Nat) (a b c e : Int) : (Op.equalIn (d + 2) 24 (.agg #[.int .u64 a, .int .u64 b]) (.agg #[.int .u64 c, .int .u64 e])).run Try.prog w = .ok (a == c && b == e) w := by
  simp [go_sem]
  by_cases h : a = c
  · by_cases k : b = e <;> simp [h, k, Result.andThen]
  · simp [h, Result.andThen]
@[go_sem 2000] theorem Try.eqV (w : World) (a b : BitVec 128) : (Op.equalIn 10000 24 (.agg #[.int .u64 (Wd.hi a).toNat, .int .u64 (Wd.lo a).toNat]) (.agg #[.int .u64 (Wd.hi b).toNat, .int .u64 (Wd.lo b).toNat])).run Try.prog w = .ok (Wd.eqb a b) w := by
  rw [Try.eqV_raw w 9998, eqb_nat]
@[go_sem 2000] theorem Try.eqV0 (w : World) (a : BitVec 128) : (Op.equalIn 10000 24 (.agg #[.int .u64 (Wd.hi a).toNat, .int .u64 (Wd.lo a).toNat]) (.agg #[.int .u64 0, .int .u64 0])).run Try.prog w = .ok (Wd.eqb a 0#128) w := by
  have h : ((Wd.hi 0#128).toNat : Int) = 0 := by decide +kernel
  have l : ((Wd.lo 0#128).toNat : Int) = 0 := by decide +kernel
  rw [Try.eqV_raw w 9998, eqb_nat, h, l]
theorem eqb_self (a : BitVec 128) : Wd.eqb a a = true := decide_eq_true rfl
theorem eqb_ne {a b : BitVec 128} (h : a ≠ b) : Wd.eqb a b = false := decide_eq_false h
end Go.Proofs.Ytpbdffmgendboab
