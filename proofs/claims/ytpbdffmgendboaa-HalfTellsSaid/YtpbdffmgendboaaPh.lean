/- The walks of philox's plain functions. -/
import Derived.Test.YtpbdffmgendboaaKit
import Derived.Test.YtpbdffmgendboaaPhPlain
namespace Go.Proofs.Ytpbdffmgendboaa
open Go Go.RowKit

theorem hi32 (x : BitVec 32) (c : Nat) (hc : c < 4294967296) : ((x.toNat : Int) * (c : Int) / 4294967296) = ((mulhi32 x c).toNat : Int) := by
  unfold mulhi32
  have h : x.toNat * c / 4294967296 < 4294967296 := by
    have h1 : x.toNat * c ≤ 4294967295 * 4294967295 := Nat.mul_le_mul (by have := x.isLt; omega) (by omega)
    omega
  rw [BitVec.toNat_ofNat, Nat.mod_eq_of_lt (by simpa using h), Int.natCast_ediv, Int.natCast_mul]
  rfl
theorem lit32 (n : Nat) (h : n < 4294967296) : (n : Int) = ((BitVec.ofNat 32 n).toNat : Int) := by
  rw [BitVec.toNat_ofNat, Nat.mod_eq_of_lt (by simpa using h)]
theorem c1_lit : (3528531795 : Int) = ((0xd2511f53#32).toNat : Int) := by decide
theorem c2_lit : (3449720151 : Int) = ((0xcd9e8d57#32).toNat : Int) := by decide
theorem n1_lit : (2654435769 : Int) = ((0x9e3779b9#32).toNat : Int) := by decide
theorem n2_lit : (3144134277 : Int) = ((0xbb67ae85#32).toNat : Int) := by decide

set_option maxRecDepth 100000 in
theorem next_c (k0 k1 : BitVec 32) (w : World) :
    Calls Try.prog 89 #[.agg #[.int .u32 k0.toNat, .int .u32 k1.toNat]] w fun e w' =>
      e = .returned (.agg #[.int .u32 (Ph.next ⟨k0, k1⟩).a.toNat, .int .u32 (Ph.next ⟨k0, k1⟩).b.toNat]) ∧ Below w.heap.size w w' := by
  go_enter Try.func89, Try.ntmps89
  go_wp2
  go_returns
  exact ⟨ret_agg2 (by rw [n1_lit, add32]; rfl) (by rw [n2_lit, add32]; rfl), by (repeat' (first | (with_reducible exact Below.refl _ _) | (with_reducible assumption) | (with_reducible refine Below.alloc ?_ ?_ _) | (with_reducible refine Below.drew ?_) | (with_reducible refine below_drewN ?_ _) | (with_reducible refine Below.setCell ?_ ?_ _) | (with_reducible refine Below.trans ?_ (Below.mono (by assumption) ?_)) | go_size))⟩

theorem hi_c2 (x : BitVec 32) : ((x.toNat : Int) * 3449720151 / 4294967296) = ((mulhi32 x 3449720151).toNat : Int) := hi32 x 3449720151 (by decide)
theorem hi_c1 (x : BitVec 32) : ((x.toNat : Int) * 3528531795 / 4294967296) = ((mulhi32 x 3528531795).toNat : Int) := hi32 x 3528531795 (by decide)

set_option maxRecDepth 100000 in
theorem round_c (b0 b1 b2 b3 k0 k1 : BitVec 32) (w : World) :
    Calls Try.prog 86 #[.agg #[.int .u32 b0.toNat, .int .u32 b1.toNat, .int .u32 b2.toNat, .int .u32 b3.toNat], .agg #[.int .u32 k0.toNat, .int .u32 k1.toNat]] w fun e w' =>
      e = .returned (.agg #[.int .u32 (Ph.round ⟨b0, b1, b2, b3⟩ ⟨k0, k1⟩).a.toNat, .int .u32 (Ph.round ⟨b0, b1, b2, b3⟩ ⟨k0, k1⟩).b.toNat, .int .u32 (Ph.round ⟨b0, b1, b2, b3⟩ ⟨k0, k1⟩).c.toNat, .int .u32 (Ph.round ⟨b0, b1, b2, b3⟩ ⟨k0, k1⟩).d.toNat]) ∧ Below w.heap.size w w' := by
  go_enter Try.func86, Try.ntmps86
  go_wp2
  go_quiet (fail)
  go_wp2
  go_returns
  refine ⟨ret_agg4 ?_ ?_ ?_ ?_, by (repeat' (first | (with_reducible exact Below.refl _ _) | (with_reducible assumption) | (with_reducible refine Below.alloc ?_ ?_ _) | (with_reducible refine Below.drew ?_) | (with_reducible refine below_drewN ?_ _) | (with_reducible refine Below.setCell ?_ ?_ _) | (with_reducible refine Below.trans ?_ (Below.mono (by assumption) ?_)) | go_size))⟩
  · rw [hi_c2, xor32, xor32]; rfl
  · rw [c2_lit, mul32]; rfl
  · rw [hi_c1, xor32, xor32]; rfl
  · rw [c1_lit, mul32]; rfl

set_option maxRecDepth 100000 in
theorem rnext_c (k0 k1 : BitVec 32) (w : World) :
    Calls Try.prog 81 #[.agg #[.int .u32 k0.toNat, .int .u32 k1.toNat]] w fun e w' =>
      e = .returned (.agg #[.int .u32 (Ph.next ⟨k0, k1⟩).a.toNat, .int .u32 (Ph.next ⟨k0, k1⟩).b.toNat]) ∧ Below w.heap.size w w' := by
  go_enter Try.func81, Try.ntmps81
  go_wp2
  go_returns
  exact ⟨ret_agg2 (by rw [n1_lit, add32]; rfl) (by rw [n2_lit, add32]; rfl), by (repeat' (first | (with_reducible exact Below.refl _ _) | (with_reducible assumption) | (with_reducible refine Below.alloc ?_ ?_ _) | (with_reducible refine Below.drew ?_) | (with_reducible refine below_drewN ?_ _) | (with_reducible refine Below.setCell ?_ ?_ _) | (with_reducible refine Below.trans ?_ (Below.mono (by assumption) ?_)) | go_size))⟩

set_option maxRecDepth 100000 in
theorem rround_c (b0 b1 b2 b3 k0 k1 : BitVec 32) (w : World) :
    Calls Try.prog 80 #[.agg #[.int .u32 b0.toNat, .int .u32 b1.toNat, .int .u32 b2.toNat, .int .u32 b3.toNat], .agg #[.int .u32 k0.toNat, .int .u32 k1.toNat]] w fun e w' =>
      e = .returned (.agg #[.int .u32 (Ph.round ⟨b0, b1, b2, b3⟩ ⟨k0, k1⟩).a.toNat, .int .u32 (Ph.round ⟨b0, b1, b2, b3⟩ ⟨k0, k1⟩).b.toNat, .int .u32 (Ph.round ⟨b0, b1, b2, b3⟩ ⟨k0, k1⟩).c.toNat, .int .u32 (Ph.round ⟨b0, b1, b2, b3⟩ ⟨k0, k1⟩).d.toNat]) ∧ Below w.heap.size w w' := by
  go_enter Try.func80, Try.ntmps80
  go_wp2
  go_returns
  refine ⟨ret_agg4 ?_ ?_ ?_ ?_, by (repeat' (first | (with_reducible exact Below.refl _ _) | (with_reducible assumption) | (with_reducible refine Below.alloc ?_ ?_ _) | (with_reducible refine Below.drew ?_) | (with_reducible refine below_drewN ?_ _) | (with_reducible refine Below.setCell ?_ ?_ _) | (with_reducible refine Below.trans ?_ (Below.mono (by assumption) ?_)) | go_size))⟩
  · rw [hi_c2, xor32, xor32]; rfl
  · rw [c2_lit, mul32]; rfl
  · rw [hi_c1, xor32, xor32]; rfl
  · rw [c1_lit, mul32]; rfl


set_option maxRecDepth 100000 in
theorem inverse32_c (n : BitVec 32) (w : World) :
    Calls Try.prog 90 #[.int .u32 n.toNat] w fun e w' =>
      e = .returned (.int .u32 (inv32 n 5).toNat) ∧ w = w' := by
  go_enter Try.func90, Try.ntmps90
  go_wp2
  go_loop [3, 5] (fun x i => ∃ k : Nat, k ≤ 5 ∧ i = .int .i64 k ∧ x = .int .u32 (inv32 n k).toNat) (fun _ i => 5 - (intOf i).toNat)
  case atStart => exact ⟨0, by omega, rfl, rfl⟩
  case round =>
    obtain ⟨k, hk, rfl, rfl⟩ := hrel
    by_cases hlt : k < 5
    · go_wp2
      go_round
      case rel => exact ⟨k + 1, by omega, by go_num, by simp only [w32, BitVec.ofInt_mul, oi_sub, oi_toNat]; rfl⟩
      case measure => simp [intOf]; omega
    · obtain rfl : k = 5 := by omega
      go_wp2
      go_ret
      exact ⟨rfl, rfl⟩

theorem inv1_c (w : World) : Calls Try.prog 90 #[.int .u32 3528531795] w fun e w' => e = .returned (.int .u32 Ph.inv1.toNat) ∧ w = w' :=
  inverse32_c 0xd2511f53#32 w
theorem inv2_c (w : World) : Calls Try.prog 90 #[.int .u32 3449720151] w fun e w' => e = .returned (.int .u32 Ph.inv2.toNat) ∧ w = w' :=
  inverse32_c 0xcd9e8d57#32 w

set_option maxRecDepth 100000 in
theorem unround_c (b0 b1 b2 b3 k0 k1 : BitVec 32) (w : World) :
    Calls Try.prog 88 #[.agg #[.int .u32 b0.toNat, .int .u32 b1.toNat, .int .u32 b2.toNat, .int .u32 b3.toNat], .agg #[.int .u32 k0.toNat, .int .u32 k1.toNat]] w fun e w' =>
      e = .returned (.agg #[.int .u32 (Ph.unround ⟨b0, b1, b2, b3⟩ ⟨k0, k1⟩).a.toNat, .int .u32 (Ph.unround ⟨b0, b1, b2, b3⟩ ⟨k0, k1⟩).b.toNat, .int .u32 (Ph.unround ⟨b0, b1, b2, b3⟩ ⟨k0, k1⟩).c.toNat, .int .u32 (Ph.unround ⟨b0, b1, b2, b3⟩ ⟨k0, k1⟩).d.toNat]) ∧ Below w.heap.size w w' := by
  go_enter Try.func88, Try.ntmps88
  go_wp2
  go_quiet (first | (go_at_call_of 90 (Value.int IntKind.u32 3528531795); exact quiet_eq (inv1_c _)) | (go_at_call_of 90 (Value.int IntKind.u32 3449720151); exact quiet_eq (inv2_c _)))
  go_wp2
  go_returns
  refine ⟨ret_agg4 ?_ ?_ ?_ ?_, by (repeat' (first | (with_reducible exact Below.refl _ _) | (with_reducible assumption) | (with_reducible refine Below.alloc ?_ ?_ _) | (with_reducible refine Below.drew ?_) | (with_reducible refine below_drewN ?_ _) | (with_reducible refine Below.setCell ?_ ?_ _) | (with_reducible refine Below.trans ?_ (Below.mono (by assumption) ?_)) | go_size))⟩
  · rw [mul32]; rfl
  · rw [mul32, hi_c2, xor32, xor32]; rfl
  · rw [mul32]; rfl
  · rw [mul32, hi_c1, xor32, xor32]; rfl
end Go.Proofs.Ytpbdffmgendboaa
