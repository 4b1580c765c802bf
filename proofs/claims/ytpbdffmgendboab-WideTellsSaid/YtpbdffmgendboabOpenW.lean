/- A number of 128 bits among the arguments, opened. -/
import Derived.Test.YtpbdffmgendboabRow
import Derived.Test.YtpbdffmgendboabWdPlain
namespace Go.Proofs.Ytpbdffmgendboab
open Go Go.RowKit
set_option maxRecDepth 100000 in
theorem open_u128 {W : World} {r : Reach} {b : Nat} {v : Value} (h : Value.okWide Try.prog W r b 24 v) : ∃ x : BitVec 128, v = .agg #[.int .u64 (Wd.hi x).toNat, .int .u64 (Wd.lo x).toNat] := by
  obtain ⟨cs, rfl, hs, hc⟩ := open_cells (ts := [22, 22]) (by rw [Try.underlying24]) (by kernel_rfl) (by kernel_rfl) h
  obtain ⟨c0, e0, k0⟩ := hc 0 _ rfl
  obtain ⟨c1, e1, k1⟩ := hc 1 _ rfl
  obtain ⟨x0, rfl⟩ := cell_u64 Try.underlying22 k0
  obtain ⟨x1, rfl⟩ := cell_u64 Try.underlying22 k1
  have hv := congrArg Value.agg (arr2 hs e0 e1)
  have g1 : x0 = Wd.hi (Wd.mk x0 x1) := (Wd.hi_mk x0 x1).symm
  have g2 : x1 = Wd.lo (Wd.mk x0 x1) := (Wd.lo_mk x0 x1).symm
  generalize Wd.mk x0 x1 = y at g1 g2
  subst g1; subst g2
  exact ⟨y, hv⟩
end Go.Proofs.Ytpbdffmgendboab
