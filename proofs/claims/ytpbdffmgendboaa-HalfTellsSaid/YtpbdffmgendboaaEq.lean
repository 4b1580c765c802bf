/- '==' on arrays of integers. -/
import Derived.Test.YtpbdffmgendboaaKit
namespace Go.Proofs.Ytpbdffmgendboaa
open Go Go.RowKit
def eq4 (a0 a1 a2 a3 b0 b1 b2 b3 : Int) : Bool := decide (a0 = b0 ∧ a1 = b1 ∧ a2 = b2 ∧ a3 = b3)
def eq2 (a0 a1 b0 b1 : Int) : Bool := decide (a0 = b0 ∧ a1 = b1)
theorem eq4_self (a0 a1 a2 a3 : Int) : eq4 a0 a1 a2 a3 a0 a1 a2 a3 = true := by simp [eq4]
theorem eq2_self (a0 a1 : Int) : eq2 a0 a1 a0 a1 = true := by simp [eq2]
theorem run_eq_arr4 {P : Program} (w : World) (d : Nat) (t e : TypeId) (k : IntKind) (a0 a1 a2 a3 b0 b1 b2 b3 : Int) (ht : P.underlying t = some (.array 4 e)) (he : P.underlying e = some (.int k))
    (hs : ∀ w, (sizeOf e).run P w = .ok 1 w) (ha : ∀ w, (isAgg e).run P w = .ok false w) :
    (Op.equalIn (d + 2) t (.agg #[.int k a0, .int k a1, .int k a2, .int k a3]) (.agg #[.int k b0, .int k b1, .int k b2, .int k b3])).run P w = .ok (eq4 a0 a1 a2 a3 b0 b1 b2 b3) w := by
  rw [Op.equalIn]
  simp only [Sem.run_bind, run_underlying ht, Result.andThen_ok, hs]
  simp [part, hs, ha, go_sem, run_equalIn_int _ _ _ _ _ _ _ he, List.range']
  unfold eq4
  by_cases h0 : a0 = b0 <;> by_cases h1 : a1 = b1 <;> by_cases h2 : a2 = b2 <;> by_cases h3 : a3 = b3 <;> simp [h0, h1, h2, h3]
theorem run_eq_arr2 {P : Program} (w : World) (d : Nat) (t e : TypeId) (k : IntKind) (a0 a1 b0 b1 : Int) (ht : P.underlying t = some (.array 2 e)) (he : P.underlying e = some (.int k))
    (hs : ∀ w, (sizeOf e).run P w = .ok 1 w) (ha : ∀ w, (isAgg e).run P w = .ok false w) :
    (Op.equalIn (d + 2) t (.agg #[.int k a0, .int k a1]) (.agg #[.int k b0, .int k b1])).run P w = .ok (eq2 a0 a1 b0 b1) w := by
  rw [Op.equalIn]
  simp only [Sem.run_bind, run_underlying ht, Result.andThen_ok, hs]
  simp [part, hs, ha, go_sem, run_equalIn_int _ _ _ _ _ _ _ he, List.range']
  unfold eq2
  by_cases h0 : a0 = b0 <;> by_cases h1 : a1 = b1 <;> simp [h0, h1]
theorem Try.size_u32 (w : World) : (sizeOf 78).run Try.prog w = .ok 1 w := by kernel_rfl
theorem Try.agg_u32 (w : World) : (isAgg 78).run Try.prog w = .ok false w := by kernel_rfl
theorem Try.size_u64 (w : World) : (sizeOf 22).run Try.prog w = .ok 1 w := by kernel_rfl
theorem Try.agg_u64 (w : World) : (isAgg 22).run Try.prog w = .ok false w := by kernel_rfl
@[go_sem] theorem Try.eq_block (w : World) (a0 a1 a2 a3 b0 b1 b2 b3 : Int) : (Op.equalIn 10000 95 (.agg #[.int .u32 a0, .int .u32 a1, .int .u32 a2, .int .u32 a3]) (.agg #[.int .u32 b0, .int .u32 b1, .int .u32 b2, .int .u32 b3])).run Try.prog w = .ok (eq4 a0 a1 a2 a3 b0 b1 b2 b3) w := run_eq_arr4 w 9998 _ 78 .u32 _ _ _ _ _ _ _ _ Try.underlying95 Try.underlying78 Try.size_u32 Try.agg_u32
@[go_sem] theorem Try.eq_a4u32 (w : World) (a0 a1 a2 a3 b0 b1 b2 b3 : Int) : (Op.equalIn 10000 94 (.agg #[.int .u32 a0, .int .u32 a1, .int .u32 a2, .int .u32 a3]) (.agg #[.int .u32 b0, .int .u32 b1, .int .u32 b2, .int .u32 b3])).run Try.prog w = .ok (eq4 a0 a1 a2 a3 b0 b1 b2 b3) w := run_eq_arr4 w 9998 _ 78 .u32 _ _ _ _ _ _ _ _ Try.underlying94 Try.underlying78 Try.size_u32 Try.agg_u32
@[go_sem] theorem Try.eq_key (w : World) (a0 a1 b0 b1 : Int) : (Op.equalIn 10000 80 (.agg #[.int .u32 a0, .int .u32 a1]) (.agg #[.int .u32 b0, .int .u32 b1])).run Try.prog w = .ok (eq2 a0 a1 b0 b1) w := run_eq_arr2 w 9998 _ 78 .u32 _ _ _ _ Try.underlying80 Try.underlying78 Try.size_u32 Try.agg_u32
@[go_sem] theorem Try.eq_a2u32 (w : World) (a0 a1 b0 b1 : Int) : (Op.equalIn 10000 79 (.agg #[.int .u32 a0, .int .u32 a1]) (.agg #[.int .u32 b0, .int .u32 b1])).run Try.prog w = .ok (eq2 a0 a1 b0 b1) w := run_eq_arr2 w 9998 _ 78 .u32 _ _ _ _ Try.underlying79 Try.underlying78 Try.size_u32 Try.agg_u32
@[go_sem] theorem Try.eq_a4u64 (w : World) (a0 a1 a2 a3 b0 b1 b2 b3 : Int) : (Op.equalIn 10000 124 (.agg #[.int .u64 a0, .int .u64 a1, .int .u64 a2, .int .u64 a3]) (.agg #[.int .u64 b0, .int .u64 b1, .int .u64 b2, .int .u64 b3])).run Try.prog w = .ok (eq4 a0 a1 a2 a3 b0 b1 b2 b3) w := run_eq_arr4 w 9998 _ 22 .u64 _ _ _ _ _ _ _ _ Try.underlying124 Try.underlying22 Try.size_u64 Try.agg_u64
@[go_sem] theorem Try.eq_a2u64 (w : World) (a0 a1 b0 b1 : Int) : (Op.equalIn 10000 101 (.agg #[.int .u64 a0, .int .u64 a1]) (.agg #[.int .u64 b0, .int .u64 b1])).run Try.prog w = .ok (eq2 a0 a1 b0 b1) w := run_eq_arr2 w 9998 _ 22 .u64 _ _ _ _ Try.underlying101 Try.underlying22 Try.size_u64 Try.agg_u64
end Go.Proofs.Ytpbdffmgendboaa
