/- half's states and philox's blocks among the arguments, opened. -/
import Derived.Test.YtpbdffmgendboaaOpenW
namespace Go.Proofs.Ytpbdffmgendboaa
open Go Go.RowKit
theorem arr5 {cs : Array Value} {c0 c1 c2 c3 c4 : Value} (hs : cs.size = 5) (h0 : cs[0]? = some c0) (h1 : cs[1]? = some c1) (h2 : cs[2]? = some c2) (h3 : cs[3]? = some c3) (h4 : cs[4]? = some c4) : cs = #[c0, c1, c2, c3, c4] := by
  apply Array.ext (by simpa using hs)
  intro i hi hi'
  match i, hi with
  | 0, hi => have := Array.getElem?_eq_getElem hi; rw [h0] at this; simpa using (Option.some.inj this).symm
  | 1, hi => have := Array.getElem?_eq_getElem hi; rw [h1] at this; simpa using (Option.some.inj this).symm
  | 2, hi => have := Array.getElem?_eq_getElem hi; rw [h2] at this; simpa using (Option.some.inj this).symm
  | 3, hi => have := Array.getElem?_eq_getElem hi; rw [h3] at this; simpa using (Option.some.inj this).symm
  | 4, hi => have := Array.getElem?_eq_getElem hi; rw [h4] at this; simpa using (Option.some.inj this).symm
  | n + 5, hi => omega
set_option maxRecDepth 100000 in
theorem open_hst {W : World} {r : Reach} {b : Nat} {v : Value} (h : Value.okWide Try.prog W r b 82 v) : ∃ (c : BitVec 128) (k0 k1 : BitVec 32) (d : Bool), v = .agg #[.int .u64 (Wd.hi c).toNat, .int .u64 (Wd.lo c).toNat, .int .u32 k0.toNat, .int .u32 k1.toNat, .bool d] := by
  obtain ⟨cs, rfl, hs, hc⟩ := open_cells (ts := [22, 22, 78, 78, 4]) (by rw [Try.underlying82]) (by kernel_rfl) (by kernel_rfl) h
  obtain ⟨c0, e0, k0⟩ := hc 0 _ rfl
  obtain ⟨c1, e1, k1⟩ := hc 1 _ rfl
  obtain ⟨c2, e2, k2⟩ := hc 2 _ rfl
  obtain ⟨c3, e3, k3⟩ := hc 3 _ rfl
  obtain ⟨c4, e4, k4⟩ := hc 4 _ rfl
  obtain ⟨x0, rfl⟩ := cell_u64 Try.underlying22 k0
  obtain ⟨x1, rfl⟩ := cell_u64 Try.underlying22 k1
  obtain ⟨x2, rfl⟩ := cell_u32 Try.underlying78 k2
  obtain ⟨x3, rfl⟩ := cell_u32 Try.underlying78 k3
  obtain ⟨x4, rfl⟩ := cell_bool Try.underlying4 k4
  have hv := congrArg Value.agg (arr5 hs e0 e1 e2 e3 e4)
  have g1 : x0 = Wd.hi (Wd.mk x0 x1) := (Wd.hi_mk x0 x1).symm
  have g2 : x1 = Wd.lo (Wd.mk x0 x1) := (Wd.lo_mk x0 x1).symm
  generalize Wd.mk x0 x1 = y at g1 g2
  subst g1; subst g2
  exact ⟨y, x2, x3, x4, hv⟩
set_option maxRecDepth 100000 in
theorem open_blk {W : World} {r : Reach} {b : Nat} {v : Value} (h : Value.okWide Try.prog W r b 95 v) : ∃ b0 b1 b2 b3 : BitVec 32, v = .agg #[.int .u32 b0.toNat, .int .u32 b1.toNat, .int .u32 b2.toNat, .int .u32 b3.toNat] := by
  obtain ⟨cs, rfl, hs, hc⟩ := open_cells (ts := [78, 78, 78, 78]) (by rw [Try.underlying95]) (by kernel_rfl) (by kernel_rfl) h
  obtain ⟨c0, e0, k0⟩ := hc 0 _ rfl
  obtain ⟨c1, e1, k1⟩ := hc 1 _ rfl
  obtain ⟨c2, e2, k2⟩ := hc 2 _ rfl
  obtain ⟨c3, e3, k3⟩ := hc 3 _ rfl
  obtain ⟨x0, rfl⟩ := cell_u32 Try.underlying78 k0
  obtain ⟨x1, rfl⟩ := cell_u32 Try.underlying78 k1
  obtain ⟨x2, rfl⟩ := cell_u32 Try.underlying78 k2
  obtain ⟨x3, rfl⟩ := cell_u32 Try.underlying78 k3
  exact ⟨x0, x1, x2, x3, by rw [arr4 hs e0 e1 e2 e3]⟩
end Go.Proofs.Ytpbdffmgendboaa
