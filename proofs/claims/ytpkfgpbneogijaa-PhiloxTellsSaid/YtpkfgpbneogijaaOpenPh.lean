/- philox's arguments opened. -/
import Derived.Test.YtpkfgpbneogijaaRow
namespace Go.Proofs.Ytpkfgpbneogijaa
open Go Go.RowKit
theorem open_blk {W : World} {r : Reach} {b : Nat} {v : Value} (h : Value.okWide Try.prog W r b 24 v) : ∃ b0 b1 b2 b3 : BitVec 32, v = .agg #[.int .u32 b0.toNat, .int .u32 b1.toNat, .int .u32 b2.toNat, .int .u32 b3.toNat] := by
  obtain ⟨cs, rfl, hs, hc⟩ := open_cells (ts := [22, 22, 22, 22]) (by rw [Try.underlying24]) (by kernel_rfl) (by kernel_rfl) h
  obtain ⟨c0, e0, k0⟩ := hc 0 _ rfl
  obtain ⟨c1, e1, k1⟩ := hc 1 _ rfl
  obtain ⟨c2, e2, k2⟩ := hc 2 _ rfl
  obtain ⟨c3, e3, k3⟩ := hc 3 _ rfl
  obtain ⟨x0, rfl⟩ := cell_u32 Try.underlying22 k0
  obtain ⟨x1, rfl⟩ := cell_u32 Try.underlying22 k1
  obtain ⟨x2, rfl⟩ := cell_u32 Try.underlying22 k2
  obtain ⟨x3, rfl⟩ := cell_u32 Try.underlying22 k3
  exact ⟨x0, x1, x2, x3, by rw [arr4 hs e0 e1 e2 e3]⟩
theorem open_key {W : World} {r : Reach} {b : Nat} {v : Value} (h : Value.okWide Try.prog W r b 26 v) : ∃ k0 k1 : BitVec 32, v = .agg #[.int .u32 k0.toNat, .int .u32 k1.toNat] := by
  obtain ⟨cs, rfl, hs, hc⟩ := open_cells (ts := [22, 22]) (by rw [Try.underlying26]) (by kernel_rfl) (by kernel_rfl) h
  obtain ⟨c0, e0, k0⟩ := hc 0 _ rfl
  obtain ⟨c1, e1, k1⟩ := hc 1 _ rfl
  obtain ⟨x0, rfl⟩ := cell_u32 Try.underlying22 k0
  obtain ⟨x1, rfl⟩ := cell_u32 Try.underlying22 k1
  exact ⟨x0, x1, by rw [arr2 hs e0 e1]⟩
end Go.Proofs.Ytpkfgpbneogijaa
