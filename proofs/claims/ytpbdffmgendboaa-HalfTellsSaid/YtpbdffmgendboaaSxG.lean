/- '==' of the reference's halves; words of 32 bits. -/
import Derived.Test.YtpbdffmgendboaaSxH
import Derived.Test.YtpbdffmgendboaaSxF
namespace Go.Proofs.Ytpbdffmgendboaa
open Go Go.RowKit
namespace Sx
section
variable {w : World} {x y : Operand}
theorem eqG_any (w : World) (d : Nat) (c : BitVec 128) (k0 k1 : BitVec 32) (b : Bool) (e : BitVec 128) (l0 l1 : BitVec 32) (f : Bool) : (Op.equalIn (d + 3) 86 (.agg #[.int .u64 (Wd.hi c).toNat, .int .u64 (Wd.lo c).toNat, .int .u32 k0.toNat, .int .u32 k1.toNat, .bool b]) (.agg #[.int .u64 (Wd.hi e).toNat, .int .u64 (Wd.lo e).toNat, .int .u32 l0.toNat, .int .u32 l1.toNat, .bool f])).run Try.prog w = .ok (eqbH c k0 k1 b e l0 l1 f) w := by
  have hK : (Op.equalIn (d + 2) 79 (.agg #[.int .u32 k0.toNat, .int .u32 k1.toNat]) (.agg #[.int .u32 l0.toNat, .int .u32 l1.toNat])).run Try.prog w = .ok (eq2 k0.toNat k1.toNat l0.toNat l1.toNat) w :=
    run_eq_arr2 w d _ 78 .u32 _ _ _ _ (by kernel_rfl) (by kernel_rfl) Try.size_u32 Try.agg_u32
  have e1 : eqbH c k0 k1 b e l0 l1 f = (((((Wd.hi c).toNat : Int) == ((Wd.hi e).toNat : Int) && ((Wd.lo c).toNat : Int) == ((Wd.lo e).toNat : Int)) && eq2 k0.toNat k1.toNat l0.toNat l1.toNat) && (b == f)) := by
    rw [← eqb_nat]
    unfold eqbH Wd.eqb eq2
    rw [Bool.eq_iff_iff]
    simp only [decide_eq_true_eq, Bool.and_eq_true, beq_iff_eq]
    constructor
    · rintro ⟨rfl, rfl, rfl, rfl⟩; exact ⟨⟨rfl, rfl, rfl⟩, rfl⟩
    · rintro ⟨⟨rfl, h1, h2⟩, rfl⟩; exact ⟨rfl, BitVec.eq_of_toNat_eq (by omega), BitVec.eq_of_toNat_eq (by omega), rfl⟩
  rw [e1]
  simp [go_sem, hK]
  generalize eq2 (k0.toNat : Int) (k1.toNat : Int) (l0.toNat : Int) (l1.toNat : Int) = q
  generalize ((Wd.hi c).toNat : Int) = c0
  generalize ((Wd.lo c).toNat : Int) = c1
  generalize ((Wd.hi e).toNat : Int) = e0
  generalize ((Wd.lo e).toNat : Int) = e1
  by_cases p1 : c0 = e0
  · by_cases p2 : c1 = e1
    · cases q <;> cases b <;> cases f <;> simp [p1, p2, Result.andThen]
    · simp [p1, p2, Result.andThen]
  · simp [p1, Result.andThen]
theorem gG : Try.prog.eqGuardType Try.prog.depth 86 = false := by kernel_rfl
theorem i_eqG {c : BitVec 128} {k0 k1 : BitVec 32} {b : Bool} {e : BitVec 128} {l0 l1 : BitVec 32} {f : Bool} {r : Bool} (h : eqbH c k0 k1 b e l0 l1 f = r) : (do eqGuard .eql 86 x y (.agg #[.int .u64 (Wd.hi c).toNat, .int .u64 (Wd.lo c).toNat, .int .u32 k0.toNat, .int .u32 k1.toNat, .bool b]) (.agg #[.int .u64 (Wd.hi e).toNat, .int .u64 (Wd.lo e).toNat, .int .u32 l0.toNat, .int .u32 l1.toNat, .bool f]); binOp .eql 86 (.agg #[.int .u64 (Wd.hi c).toNat, .int .u64 (Wd.lo c).toNat, .int .u32 k0.toNat, .int .u32 k1.toNat, .bool b]) (.agg #[.int .u64 (Wd.hi e).toNat, .int .u64 (Wd.lo e).toNat, .int .u32 l0.toNat, .int .u32 l1.toNat, .bool f]) : Sem Value).run Try.prog w = .ok (.bool r) w :=
  run_eq gG (by rw [← h]; exact eqG_any w 9997 c k0 k1 b e l0 l1 f)
theorem i_neG {c : BitVec 128} {k0 k1 : BitVec 32} {b : Bool} {e : BitVec 128} {l0 l1 : BitVec 32} {f : Bool} {r : Bool} (h : (!eqbH c k0 k1 b e l0 l1 f) = r) : (do eqGuard .neq 86 x y (.agg #[.int .u64 (Wd.hi c).toNat, .int .u64 (Wd.lo c).toNat, .int .u32 k0.toNat, .int .u32 k1.toNat, .bool b]) (.agg #[.int .u64 (Wd.hi e).toNat, .int .u64 (Wd.lo e).toNat, .int .u32 l0.toNat, .int .u32 l1.toNat, .bool f]); binOp .neq 86 (.agg #[.int .u64 (Wd.hi c).toNat, .int .u64 (Wd.lo c).toNat, .int .u32 k0.toNat, .int .u32 k1.toNat, .bool b]) (.agg #[.int .u64 (Wd.hi e).toNat, .int .u64 (Wd.lo e).toNat, .int .u32 l0.toNat, .int .u32 l1.toNat, .bool f]) : Sem Value).run Try.prog w = .ok (.bool r) w := by
  rw [← h]; exact run_ne gG (eqG_any w 9997 c k0 k1 b e l0 l1 f)
theorem gB : Try.prog.eqGuardType Try.prog.depth 94 = false := by kernel_rfl
theorem i_eqB {a b c d : BitVec 32} : (do eqGuard .eql 94 x y (.agg #[.int .u32 a.toNat, .int .u32 b.toNat, .int .u32 c.toNat, .int .u32 d.toNat]) (.agg #[.int .u32 a.toNat, .int .u32 b.toNat, .int .u32 c.toNat, .int .u32 d.toNat]); binOp .eql 94 (.agg #[.int .u32 a.toNat, .int .u32 b.toNat, .int .u32 c.toNat, .int .u32 d.toNat]) (.agg #[.int .u32 a.toNat, .int .u32 b.toNat, .int .u32 c.toNat, .int .u32 d.toNat]) : Sem Value).run Try.prog w = .ok (.bool true) w := by
  refine run_eq gB ?_
  have := run_eq_arr4 (P := Try.prog) w 9998 94 78 .u32 a.toNat b.toNat c.toNat d.toNat a.toNat b.toNat c.toNat d.toNat (by kernel_rfl) (by kernel_rfl) Try.size_u32 Try.agg_u32
  rw [eq4_self] at this
  exact this
theorem c_u32_u64 (p : BitVec 32) : (convert 78 22 (.int .u32 p.toNat)).run Try.prog w = .ok (.int .u64 (p.setWidth 64).toNat) w := by
  have h1 : (convert 78 22 (.int .u32 p.toNat)).run Try.prog w = .ok (.int .u64 (IntKind.u64.wrap p.toNat)) w := by kernel_rfl
  rw [h1, IntKind.wrap_u64, BitVec.toNat_setWidth]
  congr 3
theorem c_u64_u32 (p : BitVec 64) : (convert 22 78 (.int .u64 p.toNat)).run Try.prog w = .ok (.int .u32 (p.setWidth 32).toNat) w := by
  have h1 : (convert 22 78 (.int .u64 p.toNat)).run Try.prog w = .ok (.int .u32 (IntKind.u32.wrap p.toNat)) w := by kernel_rfl
  rw [h1, IntKind.wrap_u32, BitVec.toNat_setWidth]
  congr 2
end
end Sx
end Go.Proofs.Ytpbdffmgendboaa
