/- mix.Mix, mix.Unmix. -/
import Derived.Test.YtmihcjbnieoodaaMx
namespace Go.Proofs.Ytmihcjbnieoodaa
open Go Go.RowKit

theorem shw (a : BitVec 64) (n : Nat) (c : Int) (hc : c = ((2 ^ n : Nat) : Int)) : bits .xor .u64 (a.toNat : Int) ((a.toNat : Int) / c) = ((Mx.sh a n).toNat : Int) := by
  rw [hc, shr64, xor64]; rfl
theorem sh30 (a : BitVec 64) : bits .xor .u64 (a.toNat : Int) ((a.toNat : Int) / 1073741824) = ((Mx.sh a 30).toNat : Int) := shw a 30 _ (by decide)
theorem sh27 (a : BitVec 64) : bits .xor .u64 (a.toNat : Int) ((a.toNat : Int) / 134217728) = ((Mx.sh a 27).toNat : Int) := shw a 27 _ (by decide)
theorem sh31 (a : BitVec 64) : bits .xor .u64 (a.toNat : Int) ((a.toNat : Int) / 2147483648) = ((Mx.sh a 31).toNat : Int) := shw a 31 _ (by decide)
theorem mt1 (a : BitVec 64) : IntKind.u64.wrap ((a.toNat : Int) * 13787848793156543929) = ((a * Mx.t1).toNat : Int) := by
  rw [IntKind.wrap_u64, show (13787848793156543929 : Int) = (Mx.t1.toNat : Int) from by decide, mul64]
theorem mt2 (a : BitVec 64) : IntKind.u64.wrap ((a.toNat : Int) * 10723151780598845931) = ((a * Mx.t2).toNat : Int) := by
  rw [IntKind.wrap_u64, show (10723151780598845931 : Int) = (Mx.t2.toNat : Int) from by decide, mul64]
theorem wid (a : BitVec 64) : IntKind.u64.wrap (a.toNat : Int) = (a.toNat : Int) := by
  rw [IntKind.wrap_u64]; have := a.isLt; omega

set_option maxRecDepth 100000 in
set_option maxHeartbeats 1000000 in
theorem mmix_c (z : BitVec 64) (w : World) : Calls Try.prog 20 #[.int .u64 z.toNat] w fun e w' =>
    e = .returned (.int .u64 (Mx.mix z).toNat) ∧ Below w.heap.size w w' := by
  have x0 : ∀ w, (Instr.index 99 (.agg #[.int .i64 30, .int .u64 13787848793156543929, .int .u64 10871156337175269513, .int .i64 27, .int .u64 10723151780598845931, .int .u64 3573116690164977347, .int .i64 31, .int .u64 1, .int .u64 1]) (.int .i64 0)).run Try.prog w = .ok (.agg #[.int .i64 30, .int .u64 13787848793156543929, .int .u64 10871156337175269513]) w := fun _ => by kernel_rfl
  have x1 : ∀ w, (Instr.index 99 (.agg #[.int .i64 30, .int .u64 13787848793156543929, .int .u64 10871156337175269513, .int .i64 27, .int .u64 10723151780598845931, .int .u64 3573116690164977347, .int .i64 31, .int .u64 1, .int .u64 1]) (.int .i64 1)).run Try.prog w = .ok (.agg #[.int .i64 27, .int .u64 10723151780598845931, .int .u64 3573116690164977347]) w := fun _ => by kernel_rfl
  have x2 : ∀ w, (Instr.index 99 (.agg #[.int .i64 30, .int .u64 13787848793156543929, .int .u64 10871156337175269513, .int .i64 27, .int .u64 10723151780598845931, .int .u64 3573116690164977347, .int .i64 31, .int .u64 1, .int .u64 1]) (.int .i64 2)).run Try.prog w = .ok (.agg #[.int .i64 31, .int .u64 1, .int .u64 1]) w := fun _ => by kernel_rfl
  go_enter Try.func20, Try.ntmps20
  go_wp2_with fail
  refine (mrounds_c _).mono ?_
  rintro e w1 ⟨rfl, hb1⟩
  have hz1 := hb1.size
  go_wp2
  refine wp_loop_rounds 4 ?_
  rw [rounds_succ]
  go_wp2
  go_quiet (fail)
  go_wp2
  rw [rounds_succ]
  go_wp2
  go_quiet (fail)
  go_wp2
  rw [rounds_succ]
  go_wp2
  go_quiet (fail)
  go_wp2
  rw [rounds_succ]
  go_wp2
  go_ret
  exact ⟨ret_int (by rw [sh30, mt1, sh27, mt2, sh31, wid]; rfl), by (repeat' (first | (with_reducible exact Below.refl _ _) | (with_reducible assumption) | (with_reducible refine Below.alloc ?_ ?_ _) | (with_reducible refine Below.drew ?_) | (with_reducible refine below_drewN ?_ _) | (with_reducible refine Below.setCell ?_ ?_ _) | (with_reducible refine Below.trans ?_ (Below.mono (by assumption) ?_)) | go_size))⟩
end Go.Proofs.Ytmihcjbnieoodaa
