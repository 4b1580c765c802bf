/- Lists of bits: words of them, sums. -/
import Derived.Test.YtpbdffmgendboabSl4
import Derived.Test.YtpbdffmgendboabWsPlain
namespace Go.Proofs.Ytpbdffmgendboab
open Go Go.RowKit
namespace Bi
/-- a slice that reads as so many bits -/
def Rd (w : World) (v : Value) (f : Nat → Bool) (len : Nat) : Prop := len ≤ 1000000 ∧ ∃ ad cap, v = .slice ad len cap ∧ ∀ k, k < len → ∃ g o, ad = some ⟨g, o, none⟩ ∧ w.cell? ⟨g, o + k, none⟩ = some (.int .i64 ((f k).toNat : Nat))
theorem Rd.below {w w' : World} {v : Value} {f : Nat → Bool} {len : Nat} (h : Rd w v f len) (hb : Below w.heap.size w w') : Rd w' v f len := by
  obtain ⟨h1, ad, cap, hv, hc⟩ := h
  refine ⟨h1, ad, cap, hv, fun k hk => ?_⟩
  obtain ⟨g, o, e, hcell⟩ := hc k hk
  exact ⟨g, o, e, keep_cell hb _ _ hcell⟩
theorem Rd.row {w : World} {lo : Nat} {E : TypeId} {v : Value} {f : Nat → Bool} {len : Nat} (h : w.ownsRow lo E 1 v len (bis f len)) (hl : len ≤ 1000000) : Rd w v f len := by
  refine ⟨hl, ?_⟩
  rcases row_form h with ⟨rfl, rfl⟩ | ⟨g, cap, rfl, _, _, _, _, hc⟩
  · exact ⟨none, 0, rfl, fun k hk => by omega⟩
  · exact ⟨some ⟨g, 0, none⟩, cap, rfl, fun k hk => ⟨g, 0, rfl, by rw [Nat.zero_add, hc k hk, at_ f len k hk]⟩⟩
/-- so many of the bits, from the top one on -/
def num (g : Nat → Bool) : Nat → Nat
  | 0 => 0
  | t + 1 => 2 * num g t + (g (63 - t)).toNat
theorem num_lt (g : Nat → Bool) : ∀ t, num g t < 2 ^ t
  | 0 => Nat.one_pos
  | t + 1 => by have := num_lt g t; have := bl (g (63 - t)); unfold num; rw [Nat.pow_succ]; omega
theorem num_bit (g : Nat → Bool) : ∀ t i, t ≤ 64 → i < t → (num g t).testBit i = g (64 - t + i)
  | 0, i, _, h => by omega
  | t + 1, i, ht, h => by
    unfold num
    cases i with
    | zero =>
      rw [Nat.testBit_zero, show 64 - (t + 1) + 0 = 63 - t from by omega]
      cases g (63 - t) <;> simp <;> omega
    | succ i =>
      rw [Nat.testBit_succ, show (2 * num g t + (g (63 - t)).toNat) / 2 = num g t from by have := bl (g (63 - t)); omega, num_bit g t i (by omega) (by omega)]
      congr 1; omega
def word (g : Nat → Bool) : BitVec 64 := BitVec.ofNat 64 (num g 64)
theorem word_bit (g : Nat → Bool) (i : Nat) (h : i < 64) : (word g).getLsbD i = g i := by
  unfold word
  rw [BitVec.getLsbD_ofNat, num_bit g 64 i (by omega) h, decide_eq_true h]; simp
/-- the bits from a place on -/
def from_ (f : Nat → Bool) (len fr : Nat) (i : Nat) : Bool := decide (fr + i < len) && f (fr + i)
def of (f : Nat → Bool) (len : Nat) : BitVec 128 := Wd.mk (word (from_ f len 64)) (word (from_ f len 0))
theorem of_bit (f : Nat → Bool) (len i : Nat) (h : i < 128) : (of f len).getLsbD i = (decide (i < len) && f i) := by
  unfold of
  by_cases h6 : i < 64
  · rw [← Wd.lo_bit _ _ h6, Wd.lo_mk, word_bit _ _ h6]; unfold from_; rw [Nat.zero_add]
  · have e : (64 + (i - 64)) = i := by omega
    rw [← e, ← Wd.hi_bit _ _ (by omega), Wd.hi_mk, word_bit _ _ (by omega)]; unfold from_; rfl
theorem of_eq (f : Nat → Bool) (len : Nat) (x : BitVec 128) (h : ∀ i, i < 128 → x.getLsbD i = (decide (i < len) && f i)) : of f len = x := by
  apply BitVec.eq_of_getLsbD_eq
  intro i hi
  rw [of_bit f len i hi, h i hi]
end Bi
end Go.Proofs.Ytpbdffmgendboab
