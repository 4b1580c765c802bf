/- The walks of mix. -/
import Derived.Test.YtmihcjbnieoodaaKit
import Derived.Test.YtmihcjbnieoodaaMxPlain
import Derived.WalkMore
namespace Go.Proofs.Ytmihcjbnieoodaa
open Go Go.RowKit

def inv64 (n : BitVec 64) : Nat → BitVec 64
  | 0 => n
  | k + 1 => inv64 n k * (2 - n * inv64 n k)

set_option maxRecDepth 100000 in
theorem inverse64_c (n : BitVec 64) (w : World) :
    Calls Try.prog 80 #[.int .u64 n.toNat] w fun e w' =>
      e = .returned (.int .u64 (inv64 n 6).toNat) ∧ w = w' := by
  go_enter Try.func80, Try.ntmps80
  go_wp2
  go_loop [3, 5] (fun x i => ∃ k : Nat, k ≤ 6 ∧ i = .int .i64 k ∧ x = .int .u64 (inv64 n k).toNat) (fun _ i => 6 - (intOf i).toNat)
  case atStart => exact ⟨0, by omega, rfl, rfl⟩
  case round =>
    obtain ⟨k, hk, rfl, rfl⟩ := hrel
    by_cases hlt : k < 6
    · go_wp2
      go_round
      case rel => exact ⟨k + 1, by omega, by go_num, by simp only [IntKind.wrap_u64, w64, BitVec.ofInt_mul, oi_sub, oi_toNat]; rfl⟩
      case measure => simp [intOf]; omega
    · obtain rfl : k = 6 := by omega
      go_wp2
      go_ret
      exact ⟨rfl, rfl⟩
theorem minv1_c (w : World) : Calls Try.prog 80 #[.int .u64 13787848793156543929] w fun e w' => e = .returned (.int .u64 10871156337175269513) ∧ w = w' :=
  Calls.val (inverse64_c 0xbf58476d1ce4e5b9#64 w) rfl (by rw [show (inv64 0xbf58476d1ce4e5b9#64 6).toNat = 10871156337175269513 from by decide +kernel]; rfl)
theorem minv2_c (w : World) : Calls Try.prog 80 #[.int .u64 10723151780598845931] w fun e w' => e = .returned (.int .u64 3573116690164977347) ∧ w = w' :=
  Calls.val (inverse64_c 0x94d049bb133111eb#64 w) rfl (by rw [show (inv64 0x94d049bb133111eb#64 6).toNat = 3573116690164977347 from by decide +kernel]; rfl)

theorem mrounds_c (w : World) : Calls Try.prog 59 #[] w fun e w' =>
    e = .returned (.agg #[.int .i64 30, .int .u64 13787848793156543929, .int .u64 10871156337175269513, .int .i64 27, .int .u64 10723151780598845931, .int .u64 3573116690164977347, .int .i64 31, .int .u64 1, .int .u64 1]) ∧ Below w.heap.size w w' := by
  go_enter Try.func59, Try.ntmps59
  go_wp2_with fail
  refine (minv1_c _).mono ?_
  rintro e w' ⟨rfl, rfl⟩
  go_wp2_with fail
  refine (minv2_c _).mono ?_
  rintro e w' ⟨rfl, rfl⟩
  go_wp2
  refine bodyPost_ret (v := .agg #[.int .i64 30, .int .u64 13787848793156543929, .int .u64 10871156337175269513, .int .i64 27, .int .u64 10723151780598845931, .int .u64 3573116690164977347, .int .i64 31, .int .u64 1, .int .u64 1]) (by simp [results, Try.results59, go_sem, *]) rfl ?_
  exact ⟨rfl, by (repeat' (first | (with_reducible exact Below.refl _ _) | (with_reducible assumption) | (with_reducible refine Below.alloc ?_ ?_ _) | (with_reducible refine Below.drew ?_) | (with_reducible refine below_drewN ?_ _) | (with_reducible refine Below.setCell ?_ ?_ _) | (with_reducible refine Below.trans ?_ (Below.mono (by assumption) ?_)) | go_size))⟩

set_option maxRecDepth 100000 in
theorem mundo_c (z : BitVec 64) (n : Nat) (hn : 22 ≤ n) (hn2 : n < 64) (w : World) : Calls Try.prog 61 #[.int .u64 z.toNat, .int .i64 n] w fun e w' =>
    e = .returned (.int .u64 (Mx.undo z n).toNat) ∧ w = w' := by
  have s0 : (0 : Int) ≤ (n : Int) := by omega
  have s1 : (n : Int) < 64 := by omega
  go_enter Try.func61, Try.ntmps61
  go_wp2
  go_step3
  go_wp2
  go_step3
  go_wp2
  go_loopg [5] 2 (fun g x wr => w = wr ∧ ∃ k, g + k = 2 ∧ x = .int .u64 (Mx.un z n k).toNat)
  case atStart => exact ⟨rfl, 0, rfl, rfl⟩
  case round =>
    obtain ⟨rfl, k, hk, rfl⟩ := hrel
    have key : bits .xor .u64 (z.toNat : Int) (((Mx.un z n k).toNat : Int) / 2 ^ n) = ((Mx.un z n (k + 1)).toNat : Int) := by
      rw [show ((2 : Int) ^ n) = ((2 ^ n : Nat) : Int) from by simp, shr64, xor64]; rfl
    have KEY := Lib.hid key
    clear key
    go_wp2
    · rename_i h
      rw [KEY.out] at h
      have e : Mx.un z n (k + 1) = Mx.un z n k := BitVec.eq_of_toNat_eq (by have := eq_of_beq h; omega)
      rw [Exit.noGoto_ret]
      go_ret
      exact ⟨ret_int (by rw [← Mx.undo_is z _ n hn e]), rfl⟩
    · rename_i h
      rw [KEY.out] at h
      have hk2 : k < 2 := by
        rcases Nat.lt_or_ge k 2 with hlt | hge
        · exact hlt
        · obtain rfl : k = 2 := by omega
          rw [Mx.un_fix z n 2 (by omega)] at h
          simp at h
      go_roundg (gk - 1)
      case measure => omega
      case rel => exact ⟨rfl, k + 1, by omega, by rw [KEY.out]⟩
end Go.Proofs.Ytmihcjbnieoodaa
