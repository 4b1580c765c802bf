/- half.Block, pair, Number walked. -/
import Derived.Test.YtpbdffmgendboaaWdB
import Derived.Test.YtpbdffmgendboaaHfPlain
import Derived.Deep.RegionHeld3
namespace Go.Proofs.Ytpbdffmgendboaa
open Go Go.RowKit

namespace Hf
def low (x : BitVec 64) : BitVec 32 := x.setWidth 32
def top (x : BitVec 64) : BitVec 32 := (x >>> 32).setWidth 32
def pair (l h : BitVec 32) : BitVec 64 := h ++ l
theorem pair_nat (l h : BitVec 32) : (pair l h).toNat = h.toNat * 4294967296 + l.toNat := by
  simp only [pair, BitVec.toNat_append]
  rw [← Nat.shiftLeft_add_eq_or_of_lt l.isLt, Nat.shiftLeft_eq]
theorem low_nat (x : BitVec 64) : (low x).toNat = x.toNat % 4294967296 := by simp [low]
theorem top_nat (x : BitVec 64) : (top x).toNat = x.toNat / 4294967296 := by
  have := x.isLt
  simp only [top, BitVec.toNat_setWidth, BitVec.toNat_ushiftRight, Nat.shiftRight_eq_div_pow]
  omega
theorem low_pair (l h : BitVec 32) : low (pair l h) = l := BitVec.eq_of_toNat_eq (by rw [low_nat, pair_nat]; have := l.isLt; omega)
theorem top_pair (l h : BitVec 32) : top (pair l h) = h := BitVec.eq_of_toNat_eq (by rw [top_nat, pair_nat]; have := l.isLt; omega)
theorem pair_eta (x : BitVec 64) : pair (low x) (top x) = x := BitVec.eq_of_toNat_eq (by rw [pair_nat, low_nat, top_nat]; omega)
theorem pair_inj {a b c d : BitVec 32} (h : pair a b = pair c d) : a = c ∧ b = d := ⟨by rw [← low_pair a b, h, low_pair], by rw [← top_pair a b, h, top_pair]⟩
end Hf
theorem hlow (x : BitVec 64) : IntKind.u32.wrap (x.toNat : Int) = ((Hf.low x).toNat : Int) := by
  rw [Hf.low_nat, IntKind.wrap_u32]; omega
theorem htop (x : BitVec 64) : IntKind.u32.wrap ((x.toNat : Int) / 4294967296) = ((Hf.top x).toNat : Int) := by
  have := x.isLt
  rw [Hf.top_nat, IntKind.wrap_u32]; omega
theorem hshift (h : BitVec 32) : (h.setWidth 64 <<< 32).toNat = h.toNat * 4294967296 := by
  have hh := h.isLt
  rw [BitVec.toNat_shiftLeft, BitVec.toNat_setWidth, Nat.shiftLeft_eq, Nat.mod_eq_of_lt (a := h.toNat) (Nat.lt_trans hh (by decide))]
  exact Nat.mod_eq_of_lt (by have : h.toNat * 2 ^ 32 < 2 ^ 32 * 2 ^ 32 := Nat.mul_lt_mul_of_pos_right hh (by decide); rwa [← Nat.pow_add] at this)
theorem hpair (l h : BitVec 32) : bits .or .u64 (l.toNat : Int) ((h.toNat : Int) * 4294967296) = ((Hf.pair l h).toNat : Int) := by
  have hl := l.isLt
  have e1 : (l.setWidth 64).toNat = l.toNat := by rw [BitVec.toNat_setWidth, Nat.mod_eq_of_lt (Nat.lt_trans hl (by decide))]
  have e3 : (l.toNat : Int) = ((l.setWidth 64).toNat : Int) := by rw [e1]
  have e4 : (h.toNat : Int) * (4294967296 : Int) = ((h.setWidth 64 <<< 32).toNat : Int) := by rw [hshift]; exact (Int.natCast_mul _ _).symm
  rw [e3, e4, or64]
  refine congrArg Int.ofNat ?_
  rw [Hf.pair_nat, BitVec.toNat_or, hshift, e1, Nat.or_comm]
  have := Nat.shiftLeft_add_eq_or_of_lt hl h.toNat
  rw [Nat.shiftLeft_eq] at this
  exact this.symm

set_option maxRecDepth 100000 in
theorem hblock_c (c : BitVec 128) (w : World) : Calls Try.prog 54 #[.agg #[.int .u64 (Wd.hi c).toNat, .int .u64 (Wd.lo c).toNat]] w fun e w' =>
    e = .returned (.agg #[.int .u32 (Hf.low (Wd.lo c)).toNat, .int .u32 (Hf.top (Wd.lo c)).toNat, .int .u32 (Hf.low (Wd.hi c)).toNat, .int .u32 (Hf.top (Wd.hi c)).toNat]) ∧ Below w.heap.size w w' := by
  have a1 := hlow (Wd.lo c)
  have a2 := htop (Wd.lo c)
  have a3 := hlow (Wd.hi c)
  have a4 := htop (Wd.hi c)
  go_enter Try.func54, Try.ntmps54
  go_wp2
  refine bodyPost_ret (v := .agg #[.int .u32 (Hf.low (Wd.lo c)).toNat, .int .u32 (Hf.top (Wd.lo c)).toNat, .int .u32 (Hf.low (Wd.hi c)).toNat, .int .u32 (Hf.top (Wd.hi c)).toNat]) (by rw [← a1, ← a2, ← a3, ← a4]; simp [results, Try.results54, go_sem]) rfl ?_
  exact ⟨rfl, by (repeat' (first | (with_reducible exact Below.refl _ _) | (with_reducible assumption) | (with_reducible refine Below.alloc ?_ ?_ _) | (with_reducible refine Below.drew ?_) | (with_reducible refine below_drewN ?_ _) | (with_reducible refine Below.setCell ?_ ?_ _) | (with_reducible refine Below.trans ?_ (Below.mono (by assumption) ?_)) | go_size))⟩
theorem hpair_c (l h : BitVec 32) (w : World) : Calls Try.prog 73 #[.int .u32 l.toNat, .int .u32 h.toNat] w fun e w' =>
    e = .returned (.int .u64 (Hf.pair l h).toNat) ∧ w = w' := by
  have hl := l.isLt; have hh := h.isLt
  have e1 : IntKind.u64.wrap (l.toNat : Int) = (l.toNat : Int) := by rw [IntKind.wrap_u64]; omega
  have e2 : IntKind.u64.wrap (h.toNat : Int) = (h.toNat : Int) := by rw [IntKind.wrap_u64]; omega
  go_enter Try.func73, Try.ntmps73
  go_wp2
  go_ret
  exact ⟨ret_int (by rw [hpair]), rfl⟩
set_option maxRecDepth 100000 in
set_option maxHeartbeats 1000000 in
theorem hnumber_c (b0 b1 b2 b3 : BitVec 32) (w : World) : Calls Try.prog 70 #[.agg #[.int .u32 b0.toNat, .int .u32 b1.toNat, .int .u32 b2.toNat, .int .u32 b3.toNat]] w fun e w' =>
    e = .returned (.agg #[.int .u64 (Hf.pair b2 b3).toNat, .int .u64 (Hf.pair b0 b1).toNat]) ∧ Below w.heap.size w w' := by
  have D1 := Lib.hid (show ∀ w, Calls Try.prog 73 #[.int .u32 b2.toNat, .int .u32 b3.toNat] w fun e w' => e = .returned (.int .u64 (Hf.pair b2 b3).toNat) ∧ w = w' from by intro w; exact hpair_c b2 b3 w)
  have D2 := Lib.hid (show ∀ w, Calls Try.prog 73 #[.int .u32 b0.toNat, .int .u32 b1.toNat] w fun e w' => e = .returned (.int .u64 (Hf.pair b0 b1).toNat) ∧ w = w' from by intro w; exact hpair_c b0 b1 w)
  go_enter Try.func70, Try.ntmps70
  go_wp2_with fail
  go_region_held3 (fun w' => (w'.cell? ⟨w.heap.size, 0, none⟩ = some (.int .u32 b0.toNat) ∧ w'.cell? ⟨w.heap.size, 1, none⟩ = some (.int .u32 b1.toNat) ∧ w'.cell? ⟨w.heap.size, 2, none⟩ = some (.int .u32 b2.toNat) ∧ w'.cell? ⟨w.heap.size, 3, none⟩ = some (.int .u32 b3.toNat)))
    (go_keep)
    (first
      | (go_at_call_of 73 (#[.int .u32 b2.toNat, .int .u32 b3.toNat] : Array Value); refine (D1.out _).mono ?_; rintro e w' ⟨rfl, rfl⟩)
      | (go_at_call_of 73 (#[.int .u32 b0.toNat, .int .u32 b1.toNat] : Array Value); refine (D2.out _).mono ?_; rintro e w' ⟨rfl, rfl⟩))
  all_goals go_wp2
  all_goals
    refine bodyPost_ret (v := .agg #[.int .u64 (Hf.pair b2 b3).toNat, .int .u64 (Hf.pair b0 b1).toNat]) (by simp [results, Try.results70, go_sem, *]) rfl ?_
    exact ⟨rfl, by (repeat' (first | (with_reducible exact Below.refl _ _) | (with_reducible assumption) | (with_reducible refine Below.alloc ?_ ?_ _) | (with_reducible refine Below.drew ?_) | (with_reducible refine below_drewN ?_ _) | (with_reducible refine Below.setCell ?_ ?_ _) | (with_reducible refine Below.trans ?_ (Below.mono (by assumption) ?_)) | go_size))⟩
end Go.Proofs.Ytpbdffmgendboaa
