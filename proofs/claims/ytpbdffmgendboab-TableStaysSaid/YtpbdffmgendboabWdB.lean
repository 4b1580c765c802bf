/- wide.Right, wide.Bit. -/
import Derived.Test.YtpbdffmgendboabWd
import Derived.Deep.RegionHeld3
namespace Go.Proofs.Ytpbdffmgendboab
open Go Go.RowKit

theorem shrk (a : BitVec 64) (n : Nat) : ((a.toNat : Int) / 2 ^ n) = ((a >>> n).toNat : Int) := by
  rw [show ((2 : Int) ^ n) = ((2 ^ n : Nat) : Int) from by simp, shr64]
theorem shlk (a : BitVec 64) (n : Nat) : IntKind.u64.wrap ((a.toNat : Int) * 2 ^ n) = ((a <<< n).toNat : Int) := by
  rw [IntKind.wrap_u64, show ((2 : Int) ^ n) = ((2 ^ n : Nat) : Int) from by simp, shl64]
theorem wright_c0 (a : BitVec 128) (n : Int) (h0 : n ≤ 0) (w : World) :
    Calls Try.prog 16 #[.agg #[.int .u64 (Wd.hi a).toNat, .int .u64 (Wd.lo a).toNat], .int .i64 n] w fun e w' => e = .returned (.agg #[.int .u64 (Wd.hi a).toNat, .int .u64 (Wd.lo a).toNat]) ∧ Below w.heap.size w w' := by
  go_enter Try.func16, Try.ntmps16
  go_wp2
  refine bodyPost_ret (v := .agg #[.int .u64 (Wd.hi a).toNat, .int .u64 (Wd.lo a).toNat]) (by simp [results, Try.results16, go_sem]) rfl ?_
  exact ⟨rfl, by (repeat' (first | (with_reducible exact Below.refl _ _) | (with_reducible assumption) | (with_reducible refine Below.alloc ?_ ?_ _) | (with_reducible refine Below.drew ?_) | (with_reducible refine below_drewN ?_ _) | (with_reducible refine Below.setCell ?_ ?_ _) | (with_reducible refine Below.trans ?_ (Below.mono (by assumption) ?_)) | go_size))⟩
set_option maxRecDepth 100000 in
theorem wright_c1 (a : BitVec 128) (k : Nat) (h1 : 64 ≤ k) (hm : (k : Int) ≤ 9223372036854775807) (w : World) :
    Calls Try.prog 16 #[.agg #[.int .u64 (Wd.hi a).toNat, .int .u64 (Wd.lo a).toNat], .int .i64 k] w fun e w' => e = .returned (.agg #[.int .u64 0, .int .u64 (Wd.hi a >>> (min k 128 - 64)).toNat]) ∧ Below w.heap.size w w' := by
  by_cases h2 : k ≤ 128
  · have G := Lib.hid (show (Wd.hi a >>> (min k 128 - 64)) = Wd.hi a >>> (k - 64) from by rw [Nat.min_eq_left h2])
    rw [G.out]
    have s0 : (0 : Int) ≤ (k : Int) - 64 := by omega
    have s1 : (k : Int) - 64 ≤ 64 := by omega
    go_enter Try.func16, Try.ntmps16
    go_wp2
    refine bodyPost_ret (v := .agg #[.int .u64 0, .int .u64 (Wd.hi a >>> (k - 64)).toNat]) (by rw [← shrk]; simp [results, Try.results16, go_sem]) rfl ?_
    exact ⟨rfl, by (repeat' (first | (with_reducible exact Below.refl _ _) | (with_reducible assumption) | (with_reducible refine Below.alloc ?_ ?_ _) | (with_reducible refine Below.drew ?_) | (with_reducible refine below_drewN ?_ _) | (with_reducible refine Below.setCell ?_ ?_ _) | (with_reducible refine Below.trans ?_ (Below.mono (by assumption) ?_)) | go_size))⟩
  · have G := Lib.hid (show (Wd.hi a >>> (min k 128 - 64)) = 0#64 from by
      rw [Nat.min_eq_right (by omega)]
      apply BitVec.eq_of_getLsbD_eq
      intro i _
      rw [BitVec.getLsbD_ushiftRight, BitVec.getLsbD_of_ge _ _ (by omega)]; simp)
    rw [G.out]
    have e : (Wd.hi a).toNat / 18446744073709551616 = 0 := Nat.div_eq_of_lt (Wd.hi a).isLt
    go_enter Try.func16, Try.ntmps16
    go_wp2
    refine bodyPost_ret (v := .agg #[.int .u64 0, .int .u64 0]) (by simp [results, Try.results16, go_sem]; omega) rfl ?_
    exact ⟨rfl, by (repeat' (first | (with_reducible exact Below.refl _ _) | (with_reducible assumption) | (with_reducible refine Below.alloc ?_ ?_ _) | (with_reducible refine Below.drew ?_) | (with_reducible refine below_drewN ?_ _) | (with_reducible refine Below.setCell ?_ ?_ _) | (with_reducible refine Below.trans ?_ (Below.mono (by assumption) ?_)) | go_size))⟩
set_option maxRecDepth 100000 in
theorem wright_c2 (a : BitVec 128) (k : Nat) (h0 : 0 < k) (h1 : k < 64) (w : World) :
    Calls Try.prog 16 #[.agg #[.int .u64 (Wd.hi a).toNat, .int .u64 (Wd.lo a).toNat], .int .i64 k] w fun e w' => e = .returned (.agg #[.int .u64 (Wd.hi a >>> k).toNat, .int .u64 (Wd.lo a >>> k ||| Wd.hi a <<< (64 - k)).toNat]) ∧ Below w.heap.size w w' := by
  have s0 : (0 : Int) ≤ (k : Int) := by omega
  have s1 : (k : Int) < 64 := by omega
  have s2 : (0 : Int) ≤ 64 - (k : Int) := by omega
  have s3 : 64 - (k : Int) < 64 := by omega
  have s4 : IntKind.i64.wrap (64 - (k : Int)) = 64 - (k : Int) := by simp [IntKind.wrap, IntKind.signed, IntKind.bits]; omega
  have s5 : (64 - (k : Int)).toNat = 64 - k := by omega
  go_enter Try.func16, Try.ntmps16
  go_wp2
  go_region
  all_goals go_wp2
  all_goals
    refine bodyPost_ret (v := .agg #[.int .u64 (Wd.hi a >>> k).toNat, .int .u64 (Wd.lo a >>> k ||| Wd.hi a <<< (64 - k)).toNat]) (by rw [← or64, ← shlk, ← shrk, ← shrk]; simp [results, Try.results16, go_sem, *]) rfl ?_
    exact ⟨rfl, by (repeat' (first | (with_reducible exact Below.refl _ _) | (with_reducible assumption) | (with_reducible refine Below.alloc ?_ ?_ _) | (with_reducible refine Below.drew ?_) | (with_reducible refine below_drewN ?_ _) | (with_reducible refine Below.setCell ?_ ?_ _) | (with_reducible refine Below.trans ?_ (Below.mono (by assumption) ?_)) | go_size))⟩
theorem wright_c (a : BitVec 128) (n : Int) (hm : n ≤ 9223372036854775807) (w : World) :
    Calls Try.prog 16 #[.agg #[.int .u64 (Wd.hi a).toNat, .int .u64 (Wd.lo a).toNat], .int .i64 n] w fun e w' => e = .returned (.agg #[.int .u64 (Wd.hi (a >>> n.toNat)).toNat, .int .u64 (Wd.lo (a >>> n.toNat)).toNat]) ∧ Below w.heap.size w w' := by
  by_cases h0 : n ≤ 0
  · refine Calls.val (wright_c0 a n h0 w) rfl ?_
    rw [show n.toNat = 0 from by omega, BitVec.ushiftRight_zero]
  · obtain ⟨k, rfl⟩ := Int.eq_ofNat_of_zero_le (show 0 ≤ n from by omega)
    rw [show ((k : Int)).toNat = k from by omega]
    by_cases h1 : 64 ≤ k
    · refine Calls.val (wright_c1 a k h1 hm w) rfl ?_
      rw [Wd.right_big_hi a k h1, Wd.right_big_lo a k h1]; rfl
    · refine Calls.val (wright_c2 a k (by omega) (by omega) w) rfl ?_
      rw [Wd.right_hi a k (by omega), Wd.right_lo a k (by omega) (by omega)]

theorem and1w (x : BitVec 64) : bits .and .u64 (x.toNat : Int) 1 = (x.toNat : Int) % 2 := and_one_u64 _ (by omega) (by have := x.isLt; omega)
theorem wbit_c (a : BitVec 128) (i : Nat) (h : (i : Int) ≤ 9223372036854775807) (w : World) :
    Calls Try.prog 18 #[.agg #[.int .u64 (Wd.hi a).toNat, .int .u64 (Wd.lo a).toNat], .int .i64 i] w fun e w' => e = .returned (.int .i64 (Wd.bit a i : Nat)) ∧ Below w.heap.size w w' := by
  have h0 : ¬ (i : Int) < 0 := by omega
  have B := Lib.hid (Wd.bit_is a i)
  have D1 := Lib.hid (show ∀ w, Calls Try.prog 16 #[.agg #[.int .u64 (Wd.hi a).toNat, .int .u64 (Wd.lo a).toNat], .int .i64 i] w fun e w' => e = .returned (.agg #[.int .u64 (Wd.hi (a >>> i)).toNat, .int .u64 (Wd.lo (a >>> i)).toNat]) ∧ Below w.heap.size w w' from by intro w; exact Calls.val (wright_c a i h w) rfl (by rw [show ((i : Int)).toNat = i from by omega]))
  obtain ⟨y, hy⟩ : ∃ y, Wd.lo (a >>> i) = y := ⟨_, rfl⟩
  rw [hy] at B D1
  have b1 := and1w y
  have b2 : IntKind.i64.wrap ((y.toNat : Int) % 2) = (y.toNat : Int) % 2 := by rw [IntKind.wrap_i64]; omega
  clear hy
  go_enter Try.func18, Try.ntmps18
  go_wp2_with fail
  refine (D1.out _).mono ?_
  rintro e w1 ⟨rfl, hb1⟩
  go_wp2
  go_ret
  exact ⟨ret_int (by have := B.out; omega), by (repeat' (first | (with_reducible exact Below.refl _ _) | (with_reducible assumption) | (with_reducible refine Below.alloc ?_ ?_ _) | (with_reducible refine Below.drew ?_) | (with_reducible refine below_drewN ?_ _) | (with_reducible refine Below.setCell ?_ ?_ _) | (with_reducible refine Below.trans ?_ (Below.mono (by assumption) ?_)) | go_size))⟩
end Go.Proofs.Ytpbdffmgendboab
