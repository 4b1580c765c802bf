/- A slice of acts among the arguments, opened. -/
import Derived.Test.YtpbdffmgendboabRow
import Derived.Test.YtpbdffmgendboabActPlain
import Derived.Deep.Slices
import Derived.Deep.Strs
import Derived.ChangeArms
namespace Go.Proofs.Ytpbdffmgendboab
open Go Go.RowKit Go.ChangeShapes Go.WideShapes Go.ChangeAt Go.Deep
theorem Try.cellsAct : Try.prog.cellsOf 66 = 3 := by kernel_rfl
theorem Try.cellsIntA : Try.prog.cellsOf 3 = 1 := by kernel_rfl
theorem Try.cellsU64A : Try.prog.cellsOf 22 = 1 := by kernel_rfl
set_option maxRecDepth 100000 in
theorem open_acts {H : Type} {enc : TypeId × Value → H} {W : World} {v : Value} {d : DataW H} {p : List MemPlace} {base : Nat} (hval : Value.okWide Try.prog W .any base 58 v) (h : DataW.Trod enc Try.prog W 0 (fun _ => true) true 58 v d p) :
    ∃ l : List Tb.Act, Tb.Acts W v l := by
  have hc1 : v.cells.toList = [v] := by
    obtain ⟨_, _, _, rfl⟩ := okWide_slice Try.underlying58 hval
    rfl
  obtain ⟨fuel, hf⟩ := h
  rw [hc1] at hf
  rcases open_slice Try.underlying58 hf with ⟨hcs, _⟩ | ⟨a, len, cap, m, n, D, Pl, hcs, _, hl, hm, hmm, _, hx⟩
  · obtain rfl : v = .slice none 0 0 := by simpa using hcs
    exact ⟨[], none, 0, rfl, fun a ha => (by cases ha), fun k a hk => by simp at hk⟩
  · obtain rfl : v = .slice (some a) len cap := by simpa using hcs
    simp only [if_true] at hmm
    obtain ⟨ab, ao, spot⟩ := a
    have hsp : 0 < len → spot = none := fun h0 => by
      obtain ⟨cs', h1, _⟩ := hx 0 (by omega)
      rw [Try.cellsAct] at h1
      obtain ⟨_, hlen, hcell⟩ := World.cells?_some h1
      have c0 := hcell 0 (by omega)
      have := World.cell?_spot (a := _) (by
        rw [List.getElem?_eq_getElem (by omega)] at c0; exact c0)
      simpa [Addr.add] using this
    have each : ∀ i, i < len → ∃ q : Tb.Act, (-9223372036854775808 ≤ q.h ∧ q.h ≤ 9223372036854775807) ∧ spot = none ∧ W.cell? ⟨ab, ao + i * 3, none⟩ = some (.int .i64 q.d) ∧ W.cell? ⟨ab, ao + i * 3 + 1, none⟩ = some (.int .i64 q.h) ∧ W.cell? ⟨ab, ao + i * 3 + 2, none⟩ = some (.int .u64 (q.x.toNat : Nat)) := by
      intro i hi
      obtain ⟨cs', h1, h2⟩ := hx i (by omega)
      rw [Try.cellsAct] at h1
      obtain ⟨_, hlen, hcell⟩ := World.cells?_some h1
      obtain ⟨y0, y1, y2, k, _, _, g0, g1, g2⟩ := trod_struct3 Try.underlying66 h2
      match cs', hlen with
      | [v0, v1, v2], _ =>
        have g0' : DataW.trod enc Try.prog W 0 (fun _ => true) true k 3 [v0] = some y0 := by simpa [Try.cellsIntA] using g0
        have g1' : DataW.trod enc Try.prog W 0 (fun _ => true) true k 3 [v1] = some y1 := by simpa [Try.cellsIntA] using g1
        have g2' : DataW.trod enc Try.prog W 0 (fun _ => true) true k 22 [v2] = some y2 := by simpa [Try.cellsU64A] using g2
        obtain ⟨z0, e0, _, _⟩ := DataW.trod_int Try.underlying3 g0'
        obtain ⟨z1, e1, _, w1⟩ := DataW.trod_int Try.underlying3 g1'
        obtain ⟨z2, e2, _, w2⟩ := DataW.trod_int Try.underlying22 g2'
        cases e0; cases e1; cases e2
        have c0 := hcell 0 (by omega)
        have c1 := hcell 1 (by omega)
        have c2 := hcell 2 (by omega)
        have hspot : spot = none := hsp (by omega)
        subst hspot
        have b2 := bounds_u64 w2
        refine ⟨⟨z0, z1, BitVec.ofInt 64 z2⟩, bounds_i64 w1, rfl, ?_, ?_, ?_⟩
        · rw [add_add, Addr.add_mid] at c0; simpa using c0
        · rw [add_add, Addr.add_mid] at c1; simpa [Nat.add_assoc] using c1
        · rw [add_add, Addr.add_mid] at c2
          have e : z2 = (((BitVec.ofInt 64 z2).toNat : Nat) : Int) := by rw [← w64, Int.emod_eq_of_lt b2.1 (by omega)]
          rw [← e]; simpa [Nat.add_assoc] using c2
    obtain ⟨q, hq⟩ := choose_lt each
    refine ⟨(List.range len).map q, some ⟨ab, ao, spot⟩, cap, by simp, fun a ha => ?_, fun k a hk => ?_⟩
    · obtain ⟨i, hi, rfl⟩ := List.mem_map.1 ha
      exact (hq i (List.mem_range.1 hi)).1
    · have hkl : k < len := by have := (List.getElem?_eq_some_iff.1 hk).1; simpa using this
      have e : q k = a := by simpa [hkl] using hk
      subst e
      obtain ⟨_, hs, h0, h1, h2⟩ := hq k hkl
      subst hs
      exact ⟨ab, ao, rfl, h0, h1, h2⟩
end Go.Proofs.Ytpbdffmgendboab
