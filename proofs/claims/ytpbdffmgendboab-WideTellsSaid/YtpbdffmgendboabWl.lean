/- wide.Left. -/
import Derived.Test.YtpbdffmgendboabWdB
namespace Go.Proofs.Ytpbdffmgendboab
open Go Go.RowKit

theorem wleft_c0 (a : BitVec 128) (n : Int) (h0 : n ≤ 0) (w : World) :
    Calls Try.prog 15 #[.agg #[.int .u64 (Wd.hi a).toNat, .int .u64 (Wd.lo a).toNat], .int .i64 n] w fun e w' => e = .returned (.agg #[.int .u64 (Wd.hi a).toNat, .int .u64 (Wd.lo a).toNat]) ∧ Below w.heap.size w w' := by
  go_enter Try.func15, Try.ntmps15
  go_wp2
  refine bodyPost_ret (v := .agg #[.int .u64 (Wd.hi a).toNat, .int .u64 (Wd.lo a).toNat]) (by simp [results, Try.results15, go_sem]) rfl ?_
  exact ⟨rfl, by (repeat' (first | (with_reducible exact Below.refl _ _) | (with_reducible assumption) | (with_reducible refine Below.alloc ?_ ?_ _) | (with_reducible refine Below.drew ?_) | (with_reducible refine below_drewN ?_ _) | (with_reducible refine Below.setCell ?_ ?_ _) | (with_reducible refine Below.trans ?_ (Below.mono (by assumption) ?_)) | go_size))⟩
theorem shl_big (x : BitVec 64) : IntKind.u64.wrap ((x.toNat : Int) * 18446744073709551616) = 0 := by rw [IntKind.wrap_u64]; omega
set_option maxRecDepth 100000 in
theorem wleft_c1 (a : BitVec 128) (k : Nat) (h1 : 64 ≤ k) (hm : (k : Int) ≤ 9223372036854775807) (w : World) :
    Calls Try.prog 15 #[.agg #[.int .u64 (Wd.hi a).toNat, .int .u64 (Wd.lo a).toNat], .int .i64 k] w fun e w' => e = .returned (.agg #[.int .u64 (Wd.lo a <<< (min k 128 - 64)).toNat, .int .u64 0]) ∧ Below w.heap.size w w' := by
  by_cases h2 : k ≤ 128
  · have G := Lib.hid (show (Wd.lo a <<< (min k 128 - 64)) = Wd.lo a <<< (k - 64) from by rw [Nat.min_eq_left h2])
    rw [G.out]
    have s0 : (0 : Int) ≤ (k : Int) - 64 := by omega
    have s1 : (k : Int) - 64 ≤ 64 := by omega
    go_enter Try.func15, Try.ntmps15
    go_wp2
    refine bodyPost_ret (v := .agg #[.int .u64 (Wd.lo a <<< (k - 64)).toNat, .int .u64 0]) (by rw [← shlk]; simp [results, Try.results15, go_sem]) rfl ?_
    exact ⟨rfl, by (repeat' (first | (with_reducible exact Below.refl _ _) | (with_reducible assumption) | (with_reducible refine Below.alloc ?_ ?_ _) | (with_reducible refine Below.drew ?_) | (with_reducible refine below_drewN ?_ _) | (with_reducible refine Below.setCell ?_ ?_ _) | (with_reducible refine Below.trans ?_ (Below.mono (by assumption) ?_)) | go_size))⟩
  · have G := Lib.hid (show (Wd.lo a <<< (min k 128 - 64)) = 0#64 from by
      rw [Nat.min_eq_right (by omega)]
      apply BitVec.eq_of_getLsbD_eq
      intro i hi
      rw [BitVec.getLsbD_shiftLeft]; simp)
    rw [G.out]
    go_enter Try.func15, Try.ntmps15
    go_wp2
    refine bodyPost_ret (v := .agg #[.int .u64 0, .int .u64 0]) (by simp [results, Try.results15, go_sem, shl_big]) rfl ?_
    exact ⟨rfl, by (repeat' (first | (with_reducible exact Below.refl _ _) | (with_reducible assumption) | (with_reducible refine Below.alloc ?_ ?_ _) | (with_reducible refine Below.drew ?_) | (with_reducible refine below_drewN ?_ _) | (with_reducible refine Below.setCell ?_ ?_ _) | (with_reducible refine Below.trans ?_ (Below.mono (by assumption) ?_)) | go_size))⟩
set_option maxRecDepth 100000 in
theorem wleft_c2 (a : BitVec 128) (k : Nat) (h0 : 0 < k) (h1 : k < 64) (w : World) :
    Calls Try.prog 15 #[.agg #[.int .u64 (Wd.hi a).toNat, .int .u64 (Wd.lo a).toNat], .int .i64 k] w fun e w' => e = .returned (.agg #[.int .u64 (Wd.hi a <<< k ||| Wd.lo a >>> (64 - k)).toNat, .int .u64 (Wd.lo a <<< k).toNat]) ∧ Below w.heap.size w w' := by
  have s0 : (0 : Int) ≤ (k : Int) := by omega
  have s1 : (k : Int) < 64 := by omega
  have s2 : (0 : Int) ≤ 64 - (k : Int) := by omega
  have s3 : 64 - (k : Int) < 64 := by omega
  have s4 : IntKind.i64.wrap (64 - (k : Int)) = 64 - (k : Int) := by simp [IntKind.wrap, IntKind.signed, IntKind.bits]; omega
  have s5 : (64 - (k : Int)).toNat = 64 - k := by omega
  go_enter Try.func15, Try.ntmps15
  go_wp2
  go_region
  all_goals go_wp2
  all_goals
    refine bodyPost_ret (v := .agg #[.int .u64 (Wd.hi a <<< k ||| Wd.lo a >>> (64 - k)).toNat, .int .u64 (Wd.lo a <<< k).toNat]) (by rw [← or64, ← shlk, ← shlk, ← shrk]; simp [results, Try.results15, go_sem, *]) rfl ?_
    exact ⟨rfl, by (repeat' (first | (with_reducible exact Below.refl _ _) | (with_reducible assumption) | (with_reducible refine Below.alloc ?_ ?_ _) | (with_reducible refine Below.drew ?_) | (with_reducible refine below_drewN ?_ _) | (with_reducible refine Below.setCell ?_ ?_ _) | (with_reducible refine Below.trans ?_ (Below.mono (by assumption) ?_)) | go_size))⟩
theorem wleft_c (a : BitVec 128) (n : Int) (hm : n ≤ 9223372036854775807) (w : World) :
    Calls Try.prog 15 #[.agg #[.int .u64 (Wd.hi a).toNat, .int .u64 (Wd.lo a).toNat], .int .i64 n] w fun e w' => e = .returned (.agg #[.int .u64 (Wd.hi (a <<< n.toNat)).toNat, .int .u64 (Wd.lo (a <<< n.toNat)).toNat]) ∧ Below w.heap.size w w' := by
  by_cases h0 : n ≤ 0
  · refine Calls.val (wleft_c0 a n h0 w) rfl ?_
    rw [show n.toNat = 0 from by omega, BitVec.shiftLeft_zero]
  · obtain ⟨k, rfl⟩ := Int.eq_ofNat_of_zero_le (show 0 ≤ n from by omega)
    by_cases h1 : k < 64
    · refine Calls.val (wleft_c2 a k (by omega) h1 w) rfl ?_
      rw [Int.toNat_natCast, Wd.left_hi _ _ (by omega) h1, Wd.left_lo _ _ h1]
    · refine Calls.val (wleft_c1 a k (by omega) hm w) rfl ?_
      rw [Int.toNat_natCast, Wd.left_big_hi _ _ (by omega), Wd.left_big_lo _ _ (by omega)]; rfl
end Go.Proofs.Ytpbdffmgendboab
