/- wide's sums, differences and products walked. -/
import Derived.Test.YtpbdffmgendboabKit
import Derived.Test.YtpbdffmgendboabWdPlain
import Derived.Test.YtpbdffmgendboabWsPlain
import Derived.Lib.Mul64
import Derived.Laws.Bits64b
import Derived.Laws.Externs
namespace Go.Proofs.Ytpbdffmgendboab
open Go Go.RowKit

@[go_sem] theorem Try.fld128_0 (h l : Value) (w : World) : (Instr.field 24 (.agg #[h, l]) 0).run Try.prog w = .ok h w := by kernel_rfl
@[go_sem] theorem Try.fld128_1 (h l : Value) (w : World) : (Instr.field 24 (.agg #[h, l]) 1).run Try.prog w = .ok l w := by kernel_rfl
namespace M64
theorem maskN (a : Nat) (ha : a < 18446744073709551616) : bits .and .u64 (a : Int) 4294967295 = ((a % 4294967296 : Nat) : Int) := by
  have h := bits_and_u64_nat a 4294967295 ha (by omega)
  have e : a &&& 4294967295 = a % 4294967296 := Nat.and_two_pow_sub_one_eq_mod a 32
  rw [e] at h
  exact h
theorem divN (a : Nat) : (a : Int) / 4294967296 = ((a / 4294967296 : Nat) : Int) := by omega
theorem mulN (a b : Nat) : (a : Int) * (b : Int) = ((a * b : Nat) : Int) := (Int.natCast_mul a b).symm
theorem addN (a b : Nat) : (a : Int) + (b : Int) = ((a + b : Nat) : Int) := (Int.natCast_add a b).symm
theorem wrapN (a : Nat) (ha : a < 18446744073709551616) : IntKind.u64.wrap (a : Int) = (a : Int) := by rw [IntKind.wrap_u64]; omega
theorem wrapM (a : Nat) : IntKind.u64.wrap (a : Int) = ((a % 18446744073709551616 : Nat) : Int) := by rw [IntKind.wrap_u64]; omega
end M64

set_option maxHeartbeats 1000000 in
theorem mul64_c (x y : Nat) (hx : x < 18446744073709551616) (hy : y < 18446744073709551616) (w : World) :
    Calls Try.prog 60 #[.int .u64 x, .int .u64 y] w fun e w' => e = .returned (.tuple #[.int .u64 ((x * y / 18446744073709551616 : Nat) : Int), .int .u64 ((x * y % 18446744073709551616 : Nat) : Int)]) ∧ w = w' := by
  obtain ⟨bd, bt, bw, hhi⟩ := Lib.mul64_hi x y hx hy
  have ba := Lib.half_mul_le (a := x / 4294967296) (b := y / 4294967296) (by omega) (by omega)
  have bb := Lib.half_mul_le (a := x / 4294967296) (b := y % 4294967296) (by omega) (by omega)
  have bc := Lib.half_mul_le (a := x % 4294967296) (b := y / 4294967296) (by omega) (by omega)
  have ba' : x / 4294967296 * (y / 4294967296) < 18446744073709551616 := by omega
  have bb' : x / 4294967296 * (y % 4294967296) < 18446744073709551616 := by omega
  have bc' : x % 4294967296 * (y / 4294967296) < 18446744073709551616 := by omega
  have bh1 : x / 4294967296 * (y / 4294967296) + (x / 4294967296 * (y % 4294967296) + x % 4294967296 * (y % 4294967296) / 4294967296) / 4294967296 < 18446744073709551616 := by omega
  have bh : x / 4294967296 * (y / 4294967296) + (x / 4294967296 * (y % 4294967296) + x % 4294967296 * (y % 4294967296) / 4294967296) / 4294967296 + ((x / 4294967296 * (y % 4294967296) + x % 4294967296 * (y % 4294967296) / 4294967296) % 4294967296 + x % 4294967296 * (y / 4294967296)) / 4294967296 < 18446744073709551616 := by omega
  go_enter Try.func60, Try.ntmps60
  go_wp2
  simp only [M64.maskN x hx, M64.maskN y hy, M64.divN, M64.mulN, M64.addN, M64.wrapN _ bd, M64.wrapN _ bb', M64.wrapN _ bt, M64.maskN _ bt, M64.wrapN _ bc', M64.wrapN _ bw, M64.wrapN _ ba', M64.wrapN _ bh1, M64.wrapN _ bh, M64.wrapM (x * y)]
  rw [hhi]
  go_ret2
  exact ⟨rfl, rfl⟩
theorem mulw_c (x y : BitVec 64) (w : World) :
    Calls Try.prog 60 #[.int .u64 x.toNat, .int .u64 y.toNat] w fun e w' => e = .returned (.tuple #[.int .u64 (Wd.hi (Wd.full x y)).toNat, .int .u64 (Wd.lo (Wd.full x y)).toNat]) ∧ w = w' :=
  Calls.val (mul64_c x.toNat y.toNat x.isLt y.isLt w) rfl (by rw [← Wd.full_hi, ← Wd.full_lo])

theorem wof_c (n : BitVec 64) (w : World) :
    Calls Try.prog 14 #[.int .u64 n.toNat] w fun e w' => e = .returned (.agg #[.int .u64 0, .int .u64 n.toNat]) ∧ Below w.heap.size w w' := by
  go_enter Try.func14, Try.ntmps14
  go_wp2
  refine bodyPost_ret (v := .agg #[.int .u64 0, .int .u64 n.toNat]) (by simp [results, Try.results14, go_sem, *]) rfl ?_
  exact ⟨rfl, by (repeat' (first | (with_reducible exact Below.refl _ _) | (with_reducible assumption) | (with_reducible refine Below.alloc ?_ ?_ _) | (with_reducible refine Below.drew ?_) | (with_reducible refine below_drewN ?_ _) | (with_reducible refine Below.setCell ?_ ?_ _) | (with_reducible refine Below.trans ?_ (Below.mono (by assumption) ?_)) | go_size))⟩
def Wd.of (n : BitVec 64) : BitVec 128 := Wd.mk 0#64 n
theorem wofV_c (n : BitVec 64) (w : World) :
    Calls Try.prog 14 #[.int .u64 n.toNat] w fun e w' => e = .returned (.agg #[.int .u64 (Wd.hi (Wd.of n)).toNat, .int .u64 (Wd.lo (Wd.of n)).toNat]) ∧ Below w.heap.size w w' :=
  Calls.val (wof_c n w) rfl (by rw [Wd.of, Wd.hi_mk, Wd.lo_mk]; rfl)
theorem wfull_c (x y : BitVec 64) (w : World) :
    Calls Try.prog 28 #[.int .u64 x.toNat, .int .u64 y.toNat] w fun e w' => e = .returned (.agg #[.int .u64 (Wd.hi (Wd.full x y)).toNat, .int .u64 (Wd.lo (Wd.full x y)).toNat]) ∧ Below w.heap.size w w' := by
  go_enter Try.func28, Try.ntmps28
  go_wp2_with fail
  refine (mulw_c _ _ _).mono ?_
  rintro e w' ⟨rfl, rfl⟩
  go_wp2
  refine bodyPost_ret (v := .agg #[.int .u64 (Wd.hi (Wd.full x y)).toNat, .int .u64 (Wd.lo (Wd.full x y)).toNat]) (by simp [results, Try.results28, go_sem, *]) rfl ?_
  exact ⟨rfl, by (repeat' (first | (with_reducible exact Below.refl _ _) | (with_reducible assumption) | (with_reducible refine Below.alloc ?_ ?_ _) | (with_reducible refine Below.drew ?_) | (with_reducible refine below_drewN ?_ _) | (with_reducible refine Below.setCell ?_ ?_ _) | (with_reducible refine Below.trans ?_ (Below.mono (by assumption) ?_)) | go_size))⟩

theorem wmulw (x y : BitVec 64) : IntKind.u64.wrap ((x.toNat : Int) * (y.toNat : Int)) = ((x * y).toNat : Int) := by rw [IntKind.wrap_u64, mul64]
theorem waddw (x y : BitVec 64) : IntKind.u64.wrap ((x.toNat : Int) + (y.toNat : Int)) = ((x + y).toNat : Int) := by rw [IntKind.wrap_u64, add64]
attribute [local go_sem] wmulw waddw

set_option maxRecDepth 100000 in
theorem wmul_c (a b : BitVec 128) (w : World) :
    Calls Try.prog 13 #[.agg #[.int .u64 (Wd.hi a).toNat, .int .u64 (Wd.lo a).toNat], .agg #[.int .u64 (Wd.hi b).toNat, .int .u64 (Wd.lo b).toNat]] w fun e w' => e = .returned (.agg #[.int .u64 (Wd.hi (a * b)).toNat, .int .u64 (Wd.lo (a * b)).toNat]) ∧ Below w.heap.size w w' := by
  have M := Lib.hid (Wd.mul_hi a b)
  go_enter Try.func13, Try.ntmps13
  go_wp2_with fail
  refine (wfull_c _ _ _).mono ?_
  rintro e w1 ⟨rfl, hb1⟩
  have hz1 := hb1.size; (try simp at hz1)
  have kc1w_heap_size_0 : w1.cell? ⟨w.heap.size, 0, none⟩ = some (.int .u64 (Wd.hi a).toNat) := (hb1.cell (p := ⟨w.heap.size, 0, none⟩) (by first | omega | (simp; done) | (simp; omega))).trans (by (first | (with_reducible assumption) | (repeat' (first | (with_reducible assumption) | (with_reducible refine keep_drew ?_) | (with_reducible refine keepf_drew ?_) | (with_reducible refine keep_alloc' (by first | omega | (simp; done) | (simp; omega)) ?_) | (with_reducible refine keepf_alloc' (by first | omega | (simp; done) | (simp; omega)) ?_) | (with_reducible refine keep_set (by dsimp only; omega) ?_) | (go_simp; done))))); have kf1w_heap_size_0 : w1.frozen? ⟨w.heap.size, 0, none⟩ = false := (hb1.frozen (p := ⟨w.heap.size, 0, none⟩) (by first | omega | (simp; done) | (simp; omega))).trans (by (first | (with_reducible assumption) | (repeat' (first | (with_reducible assumption) | (with_reducible refine keep_drew ?_) | (with_reducible refine keepf_drew ?_) | (with_reducible refine keep_alloc' (by first | omega | (simp; done) | (simp; omega)) ?_) | (with_reducible refine keepf_alloc' (by first | omega | (simp; done) | (simp; omega)) ?_) | (with_reducible refine keep_set (by dsimp only; omega) ?_) | (go_simp; done))))); have kc1w_heap_size_1 : w1.cell? ⟨w.heap.size, 1, none⟩ = some (.int .u64 (Wd.lo a).toNat) := (hb1.cell (p := ⟨w.heap.size, 1, none⟩) (by first | omega | (simp; done) | (simp; omega))).trans (by (first | (with_reducible assumption) | (repeat' (first | (with_reducible assumption) | (with_reducible refine keep_drew ?_) | (with_reducible refine keepf_drew ?_) | (with_reducible refine keep_alloc' (by first | omega | (simp; done) | (simp; omega)) ?_) | (with_reducible refine keepf_alloc' (by first | omega | (simp; done) | (simp; omega)) ?_) | (with_reducible refine keep_set (by dsimp only; omega) ?_) | (go_simp; done))))); have kf1w_heap_size_1 : w1.frozen? ⟨w.heap.size, 1, none⟩ = false := (hb1.frozen (p := ⟨w.heap.size, 1, none⟩) (by first | omega | (simp; done) | (simp; omega))).trans (by (first | (with_reducible assumption) | (repeat' (first | (with_reducible assumption) | (with_reducible refine keep_drew ?_) | (with_reducible refine keepf_drew ?_) | (with_reducible refine keep_alloc' (by first | omega | (simp; done) | (simp; omega)) ?_) | (with_reducible refine keepf_alloc' (by first | omega | (simp; done) | (simp; omega)) ?_) | (with_reducible refine keep_set (by dsimp only; omega) ?_) | (go_simp; done)))))
  have kc1w_heap_size___1_0 : w1.cell? ⟨w.heap.size + 1, 0, none⟩ = some (.int .u64 (Wd.hi b).toNat) := (hb1.cell (p := ⟨w.heap.size + 1, 0, none⟩) (by first | omega | (simp; done) | (simp; omega))).trans (by (first | (with_reducible assumption) | (repeat' (first | (with_reducible assumption) | (with_reducible refine keep_drew ?_) | (with_reducible refine keepf_drew ?_) | (with_reducible refine keep_alloc' (by first | omega | (simp; done) | (simp; omega)) ?_) | (with_reducible refine keepf_alloc' (by first | omega | (simp; done) | (simp; omega)) ?_) | (with_reducible refine keep_set (by dsimp only; omega) ?_) | (go_simp; done))))); have kf1w_heap_size___1_0 : w1.frozen? ⟨w.heap.size + 1, 0, none⟩ = false := (hb1.frozen (p := ⟨w.heap.size + 1, 0, none⟩) (by first | omega | (simp; done) | (simp; omega))).trans (by (first | (with_reducible assumption) | (repeat' (first | (with_reducible assumption) | (with_reducible refine keep_drew ?_) | (with_reducible refine keepf_drew ?_) | (with_reducible refine keep_alloc' (by first | omega | (simp; done) | (simp; omega)) ?_) | (with_reducible refine keepf_alloc' (by first | omega | (simp; done) | (simp; omega)) ?_) | (with_reducible refine keep_set (by dsimp only; omega) ?_) | (go_simp; done))))); have kc1w_heap_size___1_1 : w1.cell? ⟨w.heap.size + 1, 1, none⟩ = some (.int .u64 (Wd.lo b).toNat) := (hb1.cell (p := ⟨w.heap.size + 1, 1, none⟩) (by first | omega | (simp; done) | (simp; omega))).trans (by (first | (with_reducible assumption) | (repeat' (first | (with_reducible assumption) | (with_reducible refine keep_drew ?_) | (with_reducible refine keepf_drew ?_) | (with_reducible refine keep_alloc' (by first | omega | (simp; done) | (simp; omega)) ?_) | (with_reducible refine keepf_alloc' (by first | omega | (simp; done) | (simp; omega)) ?_) | (with_reducible refine keep_set (by dsimp only; omega) ?_) | (go_simp; done))))); have kf1w_heap_size___1_1 : w1.frozen? ⟨w.heap.size + 1, 1, none⟩ = false := (hb1.frozen (p := ⟨w.heap.size + 1, 1, none⟩) (by first | omega | (simp; done) | (simp; omega))).trans (by (first | (with_reducible assumption) | (repeat' (first | (with_reducible assumption) | (with_reducible refine keep_drew ?_) | (with_reducible refine keepf_drew ?_) | (with_reducible refine keep_alloc' (by first | omega | (simp; done) | (simp; omega)) ?_) | (with_reducible refine keepf_alloc' (by first | omega | (simp; done) | (simp; omega)) ?_) | (with_reducible refine keep_set (by dsimp only; omega) ?_) | (go_simp; done)))))
  have kc1w_heap_size___2_0 : w1.cell? ⟨w.heap.size + 2, 0, none⟩ = some (.int .u64 0) := (hb1.cell (p := ⟨w.heap.size + 2, 0, none⟩) (by first | omega | (simp; done) | (simp; omega))).trans (by (first | (with_reducible assumption) | (repeat' (first | (with_reducible assumption) | (with_reducible refine keep_drew ?_) | (with_reducible refine keepf_drew ?_) | (with_reducible refine keep_alloc' (by first | omega | (simp; done) | (simp; omega)) ?_) | (with_reducible refine keepf_alloc' (by first | omega | (simp; done) | (simp; omega)) ?_) | (with_reducible refine keep_set (by dsimp only; omega) ?_) | (go_simp; done))))); have kf1w_heap_size___2_0 : w1.frozen? ⟨w.heap.size + 2, 0, none⟩ = false := (hb1.frozen (p := ⟨w.heap.size + 2, 0, none⟩) (by first | omega | (simp; done) | (simp; omega))).trans (by (first | (with_reducible assumption) | (repeat' (first | (with_reducible assumption) | (with_reducible refine keep_drew ?_) | (with_reducible refine keepf_drew ?_) | (with_reducible refine keep_alloc' (by first | omega | (simp; done) | (simp; omega)) ?_) | (with_reducible refine keepf_alloc' (by first | omega | (simp; done) | (simp; omega)) ?_) | (with_reducible refine keep_set (by dsimp only; omega) ?_) | (go_simp; done))))); have kc1w_heap_size___2_1 : w1.cell? ⟨w.heap.size + 2, 1, none⟩ = some (.int .u64 0) := (hb1.cell (p := ⟨w.heap.size + 2, 1, none⟩) (by first | omega | (simp; done) | (simp; omega))).trans (by (first | (with_reducible assumption) | (repeat' (first | (with_reducible assumption) | (with_reducible refine keep_drew ?_) | (with_reducible refine keepf_drew ?_) | (with_reducible refine keep_alloc' (by first | omega | (simp; done) | (simp; omega)) ?_) | (with_reducible refine keepf_alloc' (by first | omega | (simp; done) | (simp; omega)) ?_) | (with_reducible refine keep_set (by dsimp only; omega) ?_) | (go_simp; done))))); have kf1w_heap_size___2_1 : w1.frozen? ⟨w.heap.size + 2, 1, none⟩ = false := (hb1.frozen (p := ⟨w.heap.size + 2, 1, none⟩) (by first | omega | (simp; done) | (simp; omega))).trans (by (first | (with_reducible assumption) | (repeat' (first | (with_reducible assumption) | (with_reducible refine keep_drew ?_) | (with_reducible refine keepf_drew ?_) | (with_reducible refine keep_alloc' (by first | omega | (simp; done) | (simp; omega)) ?_) | (with_reducible refine keepf_alloc' (by first | omega | (simp; done) | (simp; omega)) ?_) | (with_reducible refine keep_set (by dsimp only; omega) ?_) | (go_simp; done)))))
  go_wp2
  refine bodyPost_ret (v := .agg #[.int .u64 (Wd.hi (a * b)).toNat, .int .u64 (Wd.lo (a * b)).toNat]) (by simp [results, Try.results13, go_sem, *]; exact ⟨by rw [mul64, mul64, waddw, waddw, M.out], by rw [Wd.mul_lo]⟩) rfl ?_
  exact ⟨rfl, by (repeat' (first | (with_reducible exact Below.refl _ _) | (with_reducible assumption) | (with_reducible refine Below.alloc ?_ ?_ _) | (with_reducible refine Below.drew ?_) | (with_reducible refine below_drewN ?_ _) | (with_reducible refine Below.setCell ?_ ?_ _) | (with_reducible refine Below.trans ?_ (Below.mono (by assumption) ?_)) | go_size))⟩

def run_add (P : Program) (f : FuncId) : Prop := ∀ (x y c : Nat) (_ : c ≤ 1) (w : World),
    (callFunc f #[.int .u64 x, .int .u64 y, .int .u64 c]).run P w = .ok (.value (.tuple #[.int .u64 (((x + y + c) % 18446744073709551616 : Nat) : Int), .int .u64 (((x + y + c) / 18446744073709551616 : Nat) : Int)])) w
theorem radd : run_add Try.prog 51 := by
  intro x y c hc w
  rw [run_callFunc_extern Try.func51 (by kernel_rfl) (by kernel_rfl) (by kernel_rfl) (e := add64Entry) (by kernel_rfl), run_add64 x y c (by omega) (by omega) (by omega) (by omega)]
  simp only [Result.andThen]
  congr 5 <;> omega
theorem radd0 (a b : BitVec 128) (w : World) : (callFunc 51 #[.int .u64 (Wd.lo a).toNat, .int .u64 (Wd.lo b).toNat, .int .u64 0]).run Try.prog w = .ok (.value (.tuple #[.int .u64 (Wd.lo (a + b)).toNat, .int .u64 (Wd.cy a b : Nat)])) w := by
  have h := radd (Wd.lo a).toNat (Wd.lo b).toNat 0 (by omega) w
  rw [Nat.add_zero, Wd.add_lo] at h
  exact h
theorem radd1 (a b : BitVec 128) (w : World) : (callFunc 51 #[.int .u64 (Wd.hi a).toNat, .int .u64 (Wd.hi b).toNat, .int .u64 (Wd.cy a b : Nat)]).run Try.prog w = .ok (.value (.tuple #[.int .u64 (Wd.hi (a + b)).toNat, .int .u64 (Wd.cy2 a b : Nat)])) w := by
  have h := radd (Wd.hi a).toNat (Wd.hi b).toNat (Wd.cy a b) (Wd.cy_le a b) w
  rw [Wd.add_hi] at h
  exact h
set_option maxRecDepth 100000 in
theorem wadd_c (a b : BitVec 128) (w : World) :
    Calls Try.prog 11 #[.agg #[.int .u64 (Wd.hi a).toNat, .int .u64 (Wd.lo a).toNat], .agg #[.int .u64 (Wd.hi b).toNat, .int .u64 (Wd.lo b).toNat]] w fun e w' => e = .returned (.tuple #[.agg #[.int .u64 (Wd.hi (a + b)).toNat, .int .u64 (Wd.lo (a + b)).toNat], .bool (Wd.over a b)]) ∧ Below w.heap.size w w' := by
  have r0 := radd0 a b
  have r1 := radd1 a b
  have ho := Wd.add_over a b
  go_enter Try.func11, Try.ntmps11
  go_wp2_with (first | simp only [r0] | simp only [r1])
  refine bodyPost_ret (v := .tuple #[.agg #[.int .u64 (Wd.hi (a + b)).toNat, .int .u64 (Wd.lo (a + b)).toNat], .bool (Wd.over a b)]) (by simp [results, Try.results11, go_sem, *]) rfl ?_
  exact ⟨rfl, by (repeat' (first | (with_reducible exact Below.refl _ _) | (with_reducible assumption) | (with_reducible refine Below.alloc ?_ ?_ _) | (with_reducible refine Below.drew ?_) | (with_reducible refine below_drewN ?_ _) | (with_reducible refine Below.setCell ?_ ?_ _) | (with_reducible refine Below.trans ?_ (Below.mono (by assumption) ?_)) | go_size))⟩
/-- math/bits.Sub64 as the model has it -/
def subEntry : Array Value → Sem Value := fun args => do
  let (x, y, b) ← Extern.MathBitsCarry.three "Sub64" args
  pure (Extern.MathBitsCarry.pair ((x + Extern.MathBitsCarry.m64 - y - b) % Extern.MathBitsCarry.m64) (if x < y + b then 1 else 0))
theorem rsub (x y b : Nat) (hb : b ≤ 1) (w : World) :
    (callFunc 52 #[.int .u64 x, .int .u64 y, .int .u64 b]).run Try.prog w = .ok (.value (.tuple #[.int .u64 (((x + 18446744073709551616 - y - b) % 18446744073709551616 : Nat) : Int), .int .u64 ((if x < y + b then 1 else 0 : Nat) : Int)])) w := by
  rw [run_callFunc_extern Try.func52 (by kernel_rfl) (by kernel_rfl) (by kernel_rfl) (e := subEntry) (by kernel_rfl)]
  have : b = 0 ∨ b = 1 := by omega
  rcases this with rfl | rfl <;> rfl
theorem rsub0 (a b : BitVec 128) (w : World) : (callFunc 52 #[.int .u64 (Wd.lo a).toNat, .int .u64 (Wd.lo b).toNat, .int .u64 0]).run Try.prog w = .ok (.value (.tuple #[.int .u64 (Wd.lo (a - b)).toNat, .int .u64 (Wd.bw a b : Nat)])) w := by
  have h := rsub (Wd.lo a).toNat (Wd.lo b).toNat 0 (by omega) w
  rw [Nat.sub_zero, Wd.sub_lo, Nat.add_zero] at h
  exact h
theorem rsub1 (a b : BitVec 128) (w : World) : (callFunc 52 #[.int .u64 (Wd.hi a).toNat, .int .u64 (Wd.hi b).toNat, .int .u64 (Wd.bw a b : Nat)]).run Try.prog w = .ok (.value (.tuple #[.int .u64 (Wd.hi (a - b)).toNat, .int .u64 (Wd.bw2 a b : Nat)])) w := by
  have h := rsub (Wd.hi a).toNat (Wd.hi b).toNat (Wd.bw a b) (Wd.bw_le a b) w
  rw [Wd.sub_hi] at h
  exact h
set_option maxRecDepth 100000 in
theorem wsub_c (a b : BitVec 128) (w : World) :
    Calls Try.prog 12 #[.agg #[.int .u64 (Wd.hi a).toNat, .int .u64 (Wd.lo a).toNat], .agg #[.int .u64 (Wd.hi b).toNat, .int .u64 (Wd.lo b).toNat]] w fun e w' => e = .returned (.tuple #[.agg #[.int .u64 (Wd.hi (a - b)).toNat, .int .u64 (Wd.lo (a - b)).toNat], .bool (Wd.less a b)]) ∧ Below w.heap.size w w' := by
  have r0 := rsub0 a b
  have r1 := rsub1 a b
  have ho := Wd.sub_less a b
  go_enter Try.func12, Try.ntmps12
  go_wp2_with (first | simp only [r0] | simp only [r1])
  refine bodyPost_ret (v := .tuple #[.agg #[.int .u64 (Wd.hi (a - b)).toNat, .int .u64 (Wd.lo (a - b)).toNat], .bool (Wd.less a b)]) (by simp [results, Try.results12, go_sem, *]) rfl ?_
  exact ⟨rfl, by (repeat' (first | (with_reducible exact Below.refl _ _) | (with_reducible assumption) | (with_reducible refine Below.alloc ?_ ?_ _) | (with_reducible refine Below.drew ?_) | (with_reducible refine below_drewN ?_ _) | (with_reducible refine Below.setCell ?_ ?_ _) | (with_reducible refine Below.trans ?_ (Below.mono (by assumption) ?_)) | go_size))⟩
end Go.Proofs.Ytpbdffmgendboab
