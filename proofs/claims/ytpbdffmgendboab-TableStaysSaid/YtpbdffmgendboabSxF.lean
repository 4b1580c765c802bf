/- A walk by knowledge: remainders, quotients, conversions. -/
import Derived.Test.YtpbdffmgendboabSxE
namespace Go.Proofs.Ytpbdffmgendboab
open Go Go.RowKit
namespace Sx
section
variable {w : World} {x y : Operand} {P : Program} {T : TypeId}
theorem i_rem64 (p q : BitVec 64) (hq : q.toNat ≠ 0) : (do eqGuard .rem T x y (.int .u64 p.toNat) (.int .u64 q.toNat); binOp .rem T (.int .u64 p.toNat) (.int .u64 q.toNat) : Sem Value).run P w = .ok (.int .u64 (p % q).toNat) w :=
  i_rem (by rw [BitVec.toNat_umod]) hq
theorem i_quoN {k : IntKind} {p q r : Nat} (h : p / q = r) (hq : q ≠ 0) (hw : k.wrap (r : Int) = r) : (do eqGuard .quo T x y (.int k p) (.int k q); binOp .quo T (.int k p) (.int k q) : Sem Value).run P w = .ok (.int k r) w := by
  have h1 : (Op.intDiv .quo k (p : Int) (q : Int)).run P w = .ok (.int k r) w := by
    unfold Op.intDiv
    rw [if_neg (by omega)]
    show Result.ok (Value.int k (k.wrap ((p : Int).tdiv (q : Int)))) w = _
    rw [← Int.ofNat_tdiv, h, hw]
  have h2 : (do eqGuard .quo T x y (.int k p) (.int k q); binOp .quo T (.int k p) (.int k q) : Sem Value).run P w = (Op.intDiv .quo k (p : Int) (q : Int)).run P w := by cases k <;> rfl
  rw [h2, h1]
theorem i_quo64 (p q : BitVec 64) (hq : q.toNat ≠ 0) : (do eqGuard .quo T x y (.int .u64 p.toNat) (.int .u64 q.toNat); binOp .quo T (.int .u64 p.toNat) (.int .u64 q.toNat) : Sem Value).run P w = .ok (.int .u64 (p / q).toNat) w :=
  i_quoN (by rw [BitVec.toNat_udiv]) hq (by rw [IntKind.wrap_u64]; have := (p / q).isLt; omega)
theorem i_subN {k : IntKind} {p q r : Nat} (h : p - q = r) (hle : q ≤ p) (hw : k.wrap (r : Int) = r) : (do eqGuard .sub T x y (.int k p) (.int k q); binOp .sub T (.int k p) (.int k q) : Sem Value).run P w = .ok (.int k r) w := by
  have h2 : (do eqGuard .sub T x y (.int k p) (.int k q); binOp .sub T (.int k p) (.int k q) : Sem Value).run P w = .ok (.int k (k.wrap ((p : Int) - (q : Int)))) w := by cases k <;> rfl
  rw [h2, show (p : Int) - (q : Int) = (r : Int) from by omega, hw]
theorem i_mulN {k : IntKind} {p q r : Nat} (h : p * q = r) (hw : k.wrap (r : Int) = r) : (do eqGuard .mul T x y (.int k p) (.int k q); binOp .mul T (.int k p) (.int k q) : Sem Value).run P w = .ok (.int k r) w := by
  have h2 : (do eqGuard .mul T x y (.int k p) (.int k q); binOp .mul T (.int k p) (.int k q) : Sem Value).run P w = .ok (.int k (k.wrap ((p : Int) * (q : Int)))) w := by cases k <;> rfl
  rw [h2, show (p : Int) * (q : Int) = (r : Int) from by rw [← h]; exact (Int.natCast_mul _ _).symm, hw]
theorem c_u8_i64 (m : Nat) (h : m < 9223372036854775808) : (convert 5 3 (.int .u8 m)).run Try.prog w = .ok (.int .i64 m) w := by
  have h1 : (convert 5 3 (.int .u8 m)).run Try.prog w = .ok (.int .i64 (IntKind.i64.wrap m)) w := by kernel_rfl
  rw [h1, in_i64 m h]
theorem c_u64_i64 (p : BitVec 64) (m : Nat) (e : p.toNat = m) (h : m < 9223372036854775808) : (convert 22 3 (.int .u64 p.toNat)).run Try.prog w = .ok (.int .i64 m) w := by
  have h1 : (convert 22 3 (.int .u64 p.toNat)).run Try.prog w = .ok (.int .i64 (IntKind.i64.wrap p.toNat)) w := by kernel_rfl
  rw [h1, e, in_i64 m h]
theorem c_i64_u64 (m : Nat) (h : m < 18446744073709551616) : (convert 3 22 (.int .i64 m)).run Try.prog w = .ok (.int .u64 (BitVec.ofNat 64 m).toNat) w := by
  have h1 : (convert 3 22 (.int .i64 m)).run Try.prog w = .ok (.int .u64 (IntKind.u64.wrap m)) w := by kernel_rfl
  rw [h1, IntKind.wrap_u64, BitVec.toNat_ofNat]
  congr 2
theorem guard_undef {ops : Array Oper} {a : Act} {n : Nat} {kv : List (Nat × Value)} {j d : Nat} (F : Fr n a kv) (hd : ((ops[j]?).bind (·.dst)) = some d) (hb : lk kv d = some undef) : yielded ops a.tmps j = none := by
  have h : a.tmps.getD d undef = undef := F.get d _ hb
  unfold yielded
  rw [hd]
  simp only [Option.bind_some]
  cases ht : a.tmps[d]? with
  | none => rfl
  | some x => rw [Array.getD_eq_getD_getElem?, ht] at h; simp only [Option.getD_some] at h; rw [h]; rfl
theorem wanted_undef {o : Oper} {j : Nat} {f : Nat → Option Bool} {want : Bool} (hg : o.guard = some (j, want)) (hy : f j = none) : Region.wanted o f = false := by unfold Region.wanted; rw [hg]; simp [hy]
theorem step_offU {o : Oper} {j : Nat} {f : Nat → Option Bool} {want : Bool} {X Y : Prop} (hg : o.guard = some (j, want)) (hy : f j = none) (h : Y) : ∃ W : Bool, Region.wanted o f = W ∧ if W = true then X else Y :=
  ⟨false, wanted_undef hg hy, by simp only [Bool.false_eq_true, if_false]; exact h⟩
end
end Sx
end Go.Proofs.Ytpbdffmgendboab
