/- mix.Step, Back, Word, Jump. -/
import Derived.Test.YtmihcjbnieoodaaMxB
import Derived.Test.YtmihcjbnieoodaaWd
namespace Go.Proofs.Ytmihcjbnieoodaa
open Go Go.RowKit

theorem mg1 (a : BitVec 64) : IntKind.u64.wrap ((a.toNat : Int) + 11400714819323198485) = ((Mx.step a).toNat : Int) := by
  rw [IntKind.wrap_u64, show (11400714819323198485 : Int) = (Mx.gamma.toNat : Int) from by decide, add64]; rfl
theorem mg2 (a : BitVec 64) : IntKind.u64.wrap ((a.toNat : Int) - 11400714819323198485) = ((Mx.back a).toNat : Int) := by
  rw [IntKind.wrap_u64, show (11400714819323198485 : Int) = (Mx.gamma.toNat : Int) from by decide, sub64]; rfl
attribute [local go_sem] mg1 mg2

theorem mstep_c (s : BitVec 64) (w : World) : Calls Try.prog 23 #[.int .u64 s.toNat] w fun e w' => e = .returned (.int .u64 (Mx.step s).toNat) ∧ w = w' := by
  go_enter Try.func23, Try.ntmps23
  go_wp2
  go_ret
  exact ⟨rfl, rfl⟩
theorem mback_c (s : BitVec 64) (w : World) : Calls Try.prog 28 #[.int .u64 s.toNat] w fun e w' => e = .returned (.int .u64 (Mx.back s).toNat) ∧ w = w' := by
  go_enter Try.func28, Try.ntmps28
  go_wp2
  go_ret
  exact ⟨rfl, rfl⟩
theorem mword_c (s : BitVec 64) (w : World) : Calls Try.prog 22 #[.int .u64 s.toNat] w fun e w' => e = .returned (.int .u64 (Mx.word s).toNat) ∧ Below w.heap.size w w' := by
  go_enter Try.func22, Try.ntmps22
  go_wp2_with fail
  refine (mstep_c _ _).mono ?_
  rintro e w' ⟨rfl, rfl⟩
  go_wp2_with fail
  refine (mmix_c _ _).mono ?_
  rintro e w1 ⟨rfl, hb1⟩
  go_wp2
  go_ret
  exact ⟨rfl, by (repeat' (first | (with_reducible exact Below.refl _ _) | (with_reducible assumption) | (with_reducible refine Below.alloc ?_ ?_ _) | (with_reducible refine Below.drew ?_) | (with_reducible refine below_drewN ?_ _) | (with_reducible refine Below.setCell ?_ ?_ _) | (with_reducible refine Below.trans ?_ (Below.mono (by assumption) ?_)) | go_size))⟩
end Go.Proofs.Ytmihcjbnieoodaa
