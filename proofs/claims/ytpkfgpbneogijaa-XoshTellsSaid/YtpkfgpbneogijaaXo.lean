/- The walks of xosh's plain functions. -/
import Derived.Test.YtpkfgpbneogijaaEq
import Derived.Test.YtpkfgpbneogijaaXoPlain
namespace Go.Proofs.Ytpkfgpbneogijaa
open Go Go.RowKit

theorem rotl_walk (x : BitVec 64) (n : Nat) (hn : n ≤ 64) : bits .or .u64 ((x.toNat : Int) * ((2 ^ n : Nat) : Int) % 18446744073709551616) ((x.toNat : Int) / ((2 ^ (64 - n) : Nat) : Int)) = ((Xo.rotl x n).toNat : Int) := by
  rw [shl64, shr64, or64]; rfl

theorem rot7_c (x : BitVec 64) (w : World) :
    Calls Try.prog 52 #[.int .u64 x.toNat, .int .i64 7] w fun e w' => e = .returned (.int .u64 (Xo.rotl x 7).toNat) ∧ w = w' := by
  have k : bits .and .u64 7 63 = 7 := by decide
  have hx := x.isLt
  go_enter Try.func52, Try.ntmps52
  go_wp2
  go_ret
  exact ⟨ret_int (rotl_walk x 7 (by omega)), rfl⟩
theorem rot45_c (x : BitVec 64) (w : World) :
    Calls Try.prog 52 #[.int .u64 x.toNat, .int .i64 45] w fun e w' => e = .returned (.int .u64 (Xo.rotl x 45).toNat) ∧ w = w' := by
  have k : bits .and .u64 45 63 = 45 := by decide
  have hx := x.isLt
  go_enter Try.func52, Try.ntmps52
  go_wp2
  go_ret
  exact ⟨ret_int (rotl_walk x 45 (by omega)), rfl⟩
theorem rot19_c (x : BitVec 64) (w : World) :
    Calls Try.prog 52 #[.int .u64 x.toNat, .int .i64 (-45)] w fun e w' => e = .returned (.int .u64 (Xo.rotl x 19).toNat) ∧ w = w' := by
  have k : bits .and .u64 (IntKind.u64.wrap (-45)) 63 = 19 := by decide
  have hx := x.isLt
  go_enter Try.func52, Try.ntmps52
  go_wp2
  go_ret
  exact ⟨ret_int (rotl_walk x 19 (by omega)), rfl⟩
theorem turned7_c (x : BitVec 64) (w : World) :
    Calls Try.prog 53 #[.int .u64 x.toNat, .int .i64 7] w fun e w' => e = .returned (.int .u64 (Xo.rotl x 7).toNat) ∧ ∃ n, w' = w.drewN n := by
  have hx := x.isLt
  go_enter Try.func53, Try.ntmps53
  go_wp2
  go_quiet (fail)
  go_wp2
  go_ret
  exact ⟨ret_int (rotl_walk x 7 (by omega)), _, rfl⟩

def bx (a b : BitVec 64) : BitVec 64 := a ^^^ b
def bs17 (a : BitVec 64) : BitVec 64 := a <<< 17
def bm5 (a : BitVec 64) : BitVec 64 := a * 5#64
def bm9 (a : BitVec 64) : BitVec 64 := a * 9#64
theorem wmul5 (x : BitVec 64) : IntKind.u64.wrap ((x.toNat : Int) * 5) = ((bm5 x).toNat : Int) := by rw [IntKind.wrap_u64]; exact mul64 x 5#64
theorem wmul9 (x : BitVec 64) : IntKind.u64.wrap ((x.toNat : Int) * 9) = ((bm9 x).toNat : Int) := by rw [IntKind.wrap_u64]; exact mul64 x 9#64
theorem wshl17 (x : BitVec 64) : IntKind.u64.wrap ((x.toNat : Int) * 131072) = ((bs17 x).toNat : Int) := by rw [IntKind.wrap_u64]; exact shl64 x 17
theorem wxor (a b : BitVec 64) : bits .xor .u64 (a.toNat : Int) (b.toNat : Int) = ((bx a b).toNat : Int) := xor64 a b
attribute [local go_sem] wxor wshl17 wmul5 wmul9

set_option maxRecDepth 100000 in
theorem xword_c (s0 s1 s2 s3 : BitVec 64) (w : World) :
    Calls Try.prog 25 #[.agg #[.int .u64 s0.toNat, .int .u64 s1.toNat, .int .u64 s2.toNat, .int .u64 s3.toNat]] w fun e w' => e = .returned (.int .u64 (Xo.word ⟨s0, s1, s2, s3⟩).toNat) ∧ Below w.heap.size w w' := by
  go_enter Try.func25, Try.ntmps25
  go_wp2_with fail
  refine (rot7_c (bm5 s1) _).mono ?_
  rintro e w' ⟨rfl, rfl⟩
  go_wp2
  go_ret
  exact ⟨rfl, by (repeat' (first | (with_reducible exact Below.refl _ _) | (with_reducible assumption) | (with_reducible refine Below.alloc ?_ ?_ _) | (with_reducible refine Below.drew ?_) | (with_reducible refine below_drewN ?_ _) | (with_reducible refine Below.setCell ?_ ?_ _) | (with_reducible refine Below.trans ?_ (Below.mono (by assumption) ?_)) | go_size))⟩
theorem xright_c (s0 s1 s2 s3 : BitVec 64) (w : World) :
    Calls Try.prog 29 #[.agg #[.int .u64 s0.toNat, .int .u64 s1.toNat, .int .u64 s2.toNat, .int .u64 s3.toNat]] w fun e w' => e = .returned (.bool (!(eq4 s0.toNat s1.toNat s2.toNat s3.toNat 0 0 0 0))) ∧ Below w.heap.size w w' := by
  go_enter Try.func29, Try.ntmps29
  go_wp2
  go_ret
  exact ⟨rfl, by (repeat' (first | (with_reducible exact Below.refl _ _) | (with_reducible assumption) | (with_reducible refine Below.alloc ?_ ?_ _) | (with_reducible refine Below.drew ?_) | (with_reducible refine below_drewN ?_ _) | (with_reducible refine Below.setCell ?_ ?_ _) | (with_reducible refine Below.trans ?_ (Below.mono (by assumption) ?_)) | go_size))⟩
theorem rxword_c (s0 s1 s2 s3 : BitVec 64) (w : World) :
    Calls Try.prog 26 #[.agg #[.int .u64 s0.toNat, .int .u64 s1.toNat, .int .u64 s2.toNat, .int .u64 s3.toNat]] w fun e w' => e = .returned (.int .u64 (Xo.word ⟨s0, s1, s2, s3⟩).toNat) ∧ Below w.heap.size w w' := by
  go_enter Try.func26, Try.ntmps26
  go_wp2_with fail
  refine (turned7_c (bm5 s1) _).mono ?_
  rintro e w' ⟨rfl, n, rfl⟩
  go_wp2
  go_ret
  exact ⟨rfl, by (repeat' (first | (with_reducible exact Below.refl _ _) | (with_reducible assumption) | (with_reducible refine Below.alloc ?_ ?_ _) | (with_reducible refine Below.drew ?_) | (with_reducible refine below_drewN ?_ _) | (with_reducible refine Below.setCell ?_ ?_ _) | (with_reducible refine Below.trans ?_ (Below.mono (by assumption) ?_)) | go_size))⟩

set_option maxRecDepth 100000 in
theorem xstep_c (s0 s1 s2 s3 : BitVec 64) (w : World) :
    Calls Try.prog 27 #[.agg #[.int .u64 s0.toNat, .int .u64 s1.toNat, .int .u64 s2.toNat, .int .u64 s3.toNat]] w fun e w' => e = .returned (.agg #[.int .u64 (Xo.step ⟨s0, s1, s2, s3⟩).a.toNat, .int .u64 (Xo.step ⟨s0, s1, s2, s3⟩).b.toNat, .int .u64 (Xo.step ⟨s0, s1, s2, s3⟩).c.toNat, .int .u64 (Xo.step ⟨s0, s1, s2, s3⟩).d.toNat]) ∧ Below w.heap.size w w' := by
  go_enter Try.func27, Try.ntmps27
  go_wp2_with fail
  refine (rot45_c _ _).mono ?_
  rintro e w' ⟨rfl, rfl⟩
  go_wp2
  go_returns
  exact ⟨rfl, by (repeat' (first | (with_reducible exact Below.refl _ _) | (with_reducible assumption) | (with_reducible refine Below.alloc ?_ ?_ _) | (with_reducible refine Below.drew ?_) | (with_reducible refine below_drewN ?_ _) | (with_reducible refine Below.setCell ?_ ?_ _) | (with_reducible refine Below.trans ?_ (Below.mono (by assumption) ?_)) | go_size))⟩
set_option maxRecDepth 100000 in
theorem xback_c (s0 s1 s2 s3 : BitVec 64) (w : World) :
    Calls Try.prog 34 #[.agg #[.int .u64 s0.toNat, .int .u64 s1.toNat, .int .u64 s2.toNat, .int .u64 s3.toNat]] w fun e w' => e = .returned (.agg #[.int .u64 (Xo.back ⟨s0, s1, s2, s3⟩).a.toNat, .int .u64 (Xo.back ⟨s0, s1, s2, s3⟩).b.toNat, .int .u64 (Xo.back ⟨s0, s1, s2, s3⟩).c.toNat, .int .u64 (Xo.back ⟨s0, s1, s2, s3⟩).d.toNat]) ∧ Below w.heap.size w w' := by
  go_enter Try.func34, Try.ntmps34
  go_wp2_with fail
  refine (rot19_c _ _).mono ?_
  rintro e w' ⟨rfl, rfl⟩
  go_wp2
  go_loop [4, 21] (fun x i => ∃ k : Nat, k ≤ 4 ∧ i = .int .i64 k ∧ x = .int .u64 (Xo.solve (bx s1 s2) k).toNat) (fun _ i => 4 - (intOf i).toNat)
  case atStart => exact ⟨0, by omega, rfl, rfl⟩
  case round =>
    obtain ⟨k, hk, rfl, rfl⟩ := hrel
    by_cases hlt : k < 4
    · go_wp2
      go_round
      case rel => exact ⟨k + 1, by omega, by go_num, rfl⟩
      case measure => simp [intOf]; omega
    · obtain rfl : k = 4 := by omega
      go_wp2
      go_returns
      exact ⟨rfl, by (repeat' (first | (with_reducible exact Below.refl _ _) | (with_reducible assumption) | (with_reducible refine Below.alloc ?_ ?_ _) | (with_reducible refine Below.drew ?_) | (with_reducible refine below_drewN ?_ _) | (with_reducible refine Below.setCell ?_ ?_ _) | (with_reducible refine Below.trans ?_ (Below.mono (by assumption) ?_)) | go_size))⟩
set_option maxRecDepth 100000 in
theorem xadd_c (s0 s1 s2 s3 t0 t1 t2 t3 : BitVec 64) (w : World) :
    Calls Try.prog 35 #[.agg #[.int .u64 s0.toNat, .int .u64 s1.toNat, .int .u64 s2.toNat, .int .u64 s3.toNat], .agg #[.int .u64 t0.toNat, .int .u64 t1.toNat, .int .u64 t2.toNat, .int .u64 t3.toNat]] w fun e w' => e = .returned (.agg #[.int .u64 (Xo.add ⟨s0, s1, s2, s3⟩ ⟨t0, t1, t2, t3⟩).a.toNat, .int .u64 (Xo.add ⟨s0, s1, s2, s3⟩ ⟨t0, t1, t2, t3⟩).b.toNat, .int .u64 (Xo.add ⟨s0, s1, s2, s3⟩ ⟨t0, t1, t2, t3⟩).c.toNat, .int .u64 (Xo.add ⟨s0, s1, s2, s3⟩ ⟨t0, t1, t2, t3⟩).d.toNat]) ∧ Below w.heap.size w w' := by
  have i0 : ∀ w, (Instr.index 42 (.agg #[.int .u64 t0.toNat, .int .u64 t1.toNat, .int .u64 t2.toNat, .int .u64 t3.toNat]) (.int .i64 0)).run Try.prog w = .ok (.int .u64 t0.toNat) w := fun _ => by kernel_rfl
  have i1 : ∀ w, (Instr.index 42 (.agg #[.int .u64 t0.toNat, .int .u64 t1.toNat, .int .u64 t2.toNat, .int .u64 t3.toNat]) (.int .i64 1)).run Try.prog w = .ok (.int .u64 t1.toNat) w := fun _ => by kernel_rfl
  have i2 : ∀ w, (Instr.index 42 (.agg #[.int .u64 t0.toNat, .int .u64 t1.toNat, .int .u64 t2.toNat, .int .u64 t3.toNat]) (.int .i64 2)).run Try.prog w = .ok (.int .u64 t2.toNat) w := fun _ => by kernel_rfl
  have i3 : ∀ w, (Instr.index 42 (.agg #[.int .u64 t0.toNat, .int .u64 t1.toNat, .int .u64 t2.toNat, .int .u64 t3.toNat]) (.int .i64 3)).run Try.prog w = .ok (.int .u64 t3.toNat) w := fun _ => by kernel_rfl
  go_enter Try.func35, Try.ntmps35
  go_wp2
  go_rounds 5
  go_returns
  exact ⟨rfl, by (repeat' (first | (with_reducible exact Below.refl _ _) | (with_reducible assumption) | (with_reducible refine Below.alloc ?_ ?_ _) | (with_reducible refine Below.drew ?_) | (with_reducible refine below_drewN ?_ _) | (with_reducible refine Below.setCell ?_ ?_ _) | (with_reducible refine Below.trans ?_ (Below.mono (by assumption) ?_)) | go_size))⟩
set_option maxRecDepth 100000 in
theorem turned45_c (x : BitVec 64) (w : World) :
    Calls Try.prog 53 #[.int .u64 x.toNat, .int .i64 45] w fun e w' => e = .returned (.int .u64 (Xo.rotl x 45).toNat) ∧ ∃ n, w' = w.drewN n := by
  have hx := x.isLt
  go_enter Try.func53, Try.ntmps53
  go_wp2
  go_quiet (fail)
  go_wp2
  go_ret
  exact ⟨ret_int (rotl_walk x 45 (by omega)), _, rfl⟩
set_option maxRecDepth 100000 in
theorem rxstep_c (s0 s1 s2 s3 : BitVec 64) (w : World) :
    Calls Try.prog 28 #[.agg #[.int .u64 s0.toNat, .int .u64 s1.toNat, .int .u64 s2.toNat, .int .u64 s3.toNat]] w fun e w' => e = .returned (.agg #[.int .u64 (Xo.step ⟨s0, s1, s2, s3⟩).a.toNat, .int .u64 (Xo.step ⟨s0, s1, s2, s3⟩).b.toNat, .int .u64 (Xo.step ⟨s0, s1, s2, s3⟩).c.toNat, .int .u64 (Xo.step ⟨s0, s1, s2, s3⟩).d.toNat]) ∧ Below w.heap.size w w' := by
  go_enter Try.func28, Try.ntmps28
  go_wp2_with fail
  refine (turned45_c _ _).mono ?_
  rintro e w' ⟨rfl, n, rfl⟩
  go_wp2
  go_returns
  exact ⟨rfl, by (repeat' (first | (with_reducible exact Below.refl _ _) | (with_reducible assumption) | (with_reducible refine Below.alloc ?_ ?_ _) | (with_reducible refine Below.drew ?_) | (with_reducible refine below_drewN ?_ _) | (with_reducible refine Below.setCell ?_ ?_ _) | (with_reducible refine Below.trans ?_ (Below.mono (by assumption) ?_)) | go_size))⟩
end Go.Proofs.Ytpkfgpbneogijaa
