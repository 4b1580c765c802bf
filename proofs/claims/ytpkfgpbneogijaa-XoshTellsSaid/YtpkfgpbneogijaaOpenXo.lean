/- xosh's arguments opened. -/
import Derived.Test.YtpkfgpbneogijaaRow
namespace Go.Proofs.Ytpkfgpbneogijaa
open Go Go.RowKit
theorem open_xst {W : World} {r : Reach} {b : Nat} {v : Value} (h : Value.okWide Try.prog W r b 42 v) : ∃ s0 s1 s2 s3 : BitVec 64, v = .agg #[.int .u64 s0.toNat, .int .u64 s1.toNat, .int .u64 s2.toNat, .int .u64 s3.toNat] := by
  obtain ⟨cs, rfl, hs, hc⟩ := open_cells (ts := [40, 40, 40, 40]) (by rw [Try.underlying42]) (by kernel_rfl) (by kernel_rfl) h
  obtain ⟨c0, e0, k0⟩ := hc 0 _ rfl
  obtain ⟨c1, e1, k1⟩ := hc 1 _ rfl
  obtain ⟨c2, e2, k2⟩ := hc 2 _ rfl
  obtain ⟨c3, e3, k3⟩ := hc 3 _ rfl
  obtain ⟨x0, rfl⟩ := cell_u64 Try.underlying40 k0
  obtain ⟨x1, rfl⟩ := cell_u64 Try.underlying40 k1
  obtain ⟨x2, rfl⟩ := cell_u64 Try.underlying40 k2
  obtain ⟨x3, rfl⟩ := cell_u64 Try.underlying40 k3
  exact ⟨x0, x1, x2, x3, by rw [arr4 hs e0 e1 e2 e3]⟩
end Go.Proofs.Ytpkfgpbneogijaa
