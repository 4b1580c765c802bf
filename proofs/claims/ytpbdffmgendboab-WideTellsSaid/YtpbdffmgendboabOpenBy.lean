/- A slice of bytes among the arguments, opened. -/
import Derived.Test.YtpbdffmgendboabOpenW
import Derived.Test.YtpbdffmgendboabByPlain
import Derived.ChangeSlices
namespace Go.Proofs.Ytpbdffmgendboab
open Go Go.RowKit Go.ChangeShapes Go.WideShapes Go.ChangeAt
theorem Try.cellsU8 : Try.prog.cellsOf 5 = 1 := by kernel_rfl
set_option maxRecDepth 100000 in
theorem open_bys {H : Type} {enc : TypeId × Value → H} {W : World} {base : Nat} {v : Value} {d : DataW H} {p : List MemPlace} (hval : Value.okWide Try.prog W .any base 39 v) (h : DataW.Trod enc Try.prog W 0 (fun _ => true) true 39 v d p) :
    ∃ ad len cap, v = .slice ad len cap ∧ (len ≤ 100 → ∃ f : Nat → Nat, (∀ k, f k < 256) ∧ By.Rd W (.slice ad len cap) f len) := by
  obtain ⟨a1, len, cap, rfl⟩ := okWide_slice Sx.undU8 hval
  refine ⟨a1, len, cap, rfl, fun hl100 => ?_⟩
  obtain ⟨fuel, hf⟩ := h
  rcases open_ints Sx.undU8 Sx.undByte Try.cellsU8 hf with ⟨hcs, hx⟩ | ⟨a, len', cap', zs, hcs, _, hl, hm, hz, hx, hcell, hwz⟩
  · simp [Value.cells] at hcs
    obtain ⟨rfl, rfl, rfl⟩ := hcs
    exact ⟨fun _ => 0, fun _ => (by decide : 0 < 256), by omega, none, 0, rfl, fun k hk => absurd hk (Nat.not_lt_zero _)⟩
  · simp [Value.cells] at hcs
    obtain ⟨rfl, rfl, rfl⟩ := hcs
    simp only [if_true] at hz
    refine ⟨fun k => (zs[k]?.getD 0).toNat, fun k => by have := range_u8 hwz k; show (zs[k]?.getD 0).toNat < 256; omega, by omega, some a, cap, rfl, fun k hk => ?_⟩
    obtain ⟨ab, ao, spot⟩ := a
    have hspot : spot = none := by simpa [Addr.add] using World.cell?_spot (hcell 0 (by omega))
    subst hspot
    have hcj := hcell k (by omega)
    rw [Addr.add_mid] at hcj
    have hb := range_u8 hwz k
    refine ⟨ab, ao, rfl, ?_⟩
    rw [hcj, List.getD_eq_getElem?_getD]
    have e : zs[k]?.getD 0 = ((zs[k]?.getD 0).toNat : Int) := by omega
    exact congrArg (fun z => some (Value.int .u8 z)) e
end Go.Proofs.Ytpbdffmgendboab
