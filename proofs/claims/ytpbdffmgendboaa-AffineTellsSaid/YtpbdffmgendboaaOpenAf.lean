/- affine's maps among the arguments, opened. -/
import Derived.Test.YtpbdffmgendboaaOpenW
namespace Go.Proofs.Ytpbdffmgendboaa
open Go Go.RowKit
set_option maxRecDepth 100000 in
theorem open_map9 {W : World} {r : Reach} {b : Nat} {v : Value} (h : Value.okWide Try.prog W r b 26 v) : ∃ a c : BitVec 128, v = .agg #[.int .u64 (Wd.hi (a)).toNat, .int .u64 (Wd.lo (a)).toNat, .int .u64 (Wd.hi (c)).toNat, .int .u64 (Wd.lo (c)).toNat] := by
  obtain ⟨cs, rfl, hs, hc⟩ := open_cells (ts := [22, 22, 22, 22]) (by rw [Try.underlying26]) (by kernel_rfl) (by kernel_rfl) h
  obtain ⟨c0, e0, k0⟩ := hc 0 _ rfl
  obtain ⟨c1, e1, k1⟩ := hc 1 _ rfl
  obtain ⟨c2, e2, k2⟩ := hc 2 _ rfl
  obtain ⟨c3, e3, k3⟩ := hc 3 _ rfl
  obtain ⟨x0, rfl⟩ := cell_u64 Try.underlying22 k0
  obtain ⟨x1, rfl⟩ := cell_u64 Try.underlying22 k1
  obtain ⟨x2, rfl⟩ := cell_u64 Try.underlying22 k2
  obtain ⟨x3, rfl⟩ := cell_u64 Try.underlying22 k3
  have hv := congrArg Value.agg (arr4 hs e0 e1 e2 e3)
  have g1 : x0 = Wd.hi (Wd.mk x0 x1) := (Wd.hi_mk x0 x1).symm
  have g2 : x1 = Wd.lo (Wd.mk x0 x1) := (Wd.lo_mk x0 x1).symm
  have g3 : x2 = Wd.hi (Wd.mk x2 x3) := (Wd.hi_mk x2 x3).symm
  have g4 : x3 = Wd.lo (Wd.mk x2 x3) := (Wd.lo_mk x2 x3).symm
  generalize Wd.mk x0 x1 = y at g1 g2
  generalize Wd.mk x2 x3 = z at g3 g4
  subst g1; subst g2; subst g3; subst g4
  exact ⟨y, z, hv⟩
end Go.Proofs.Ytpbdffmgendboaa
