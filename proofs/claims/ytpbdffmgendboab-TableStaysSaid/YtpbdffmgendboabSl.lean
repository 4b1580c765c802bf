/- Slices of numbers and of bools that the calls themselves make: held side by side. -/
import Derived.Test.YtpbdffmgendboabKit
namespace Go.Proofs.Ytpbdffmgendboab
open Go Go.RowKit

theorem Try.infoU64 : (Try.prog.info? 22).map (fun i => (i.zero, i.size, i.bytes)) = some (some (.int .u64 0), 1, 8) := by kernel_rfl
def u64v (x : BitVec 64) : Value := .int .u64 x.toNat
def u64s (l : List (BitVec 64)) : List Value := l.map u64v
def bools (l : List Bool) : List Value := l.map Value.bool
theorem u64s_length (l : List (BitVec 64)) : (u64s l).length = l.length := by simp [u64s]
theorem u64s_snoc (l : List (BitVec 64)) (x : BitVec 64) : u64s (l ++ [x]) = u64s l ++ [.int .u64 x.toNat] := by simp [u64s, u64v]
theorem bools_snoc (l : List Bool) (x : Bool) : bools (l ++ [x]) = bools l ++ [.bool x] := by simp [bools]
theorem u64s_at (l : List (BitVec 64)) (k : Nat) (h : k < l.length) : (u64s l)[k]? = some (.int .u64 ((l[k]'h).toNat : Nat)) := by
  simp [u64s, h, u64v]
theorem bools_at (l : List Bool) (k : Nat) (h : k < l.length) : (bools l)[k]? = some (.bool (l[k]'h)) := by simp [bools, h]

/- the value's shape, and its cells -/
theorem row_form {w : World} {lo : Nat} {e : TypeId} {v : Value} {n : Nat} {xs : List Value} (h : w.ownsRow lo e 1 v n xs) :
    (v = .slice none 0 0 ∧ n = 0) ∨ (∃ g cap, v = .slice (some ⟨g, 0, none⟩) n cap ∧ lo ≤ g ∧ g < w.heap.size ∧ n ≤ cap ∧ cap ≤ maxLen ∧ ∀ j, j < n → w.cell? ⟨g, j, none⟩ = xs[j]?) := by
  rcases h.2 with hn | ⟨g, cap, cur, rfl, hg, hh, hc, hm, _⟩
  · exact .inl hn
  · exact .inr ⟨g, cap, rfl, hg, (Array.getElem?_eq_some_iff.1 hh).1, hc, hm, fun j hj => World.ownsRow.cellAt h j (by omega)⟩

theorem one_new (w : World) (v : Value) (t : TypeId) : ∀ j u, [v][j]? = some u → (w.alloc (.cells #[v] t)).cell? ((⟨w.heap.size, 0, none⟩ : Addr).add j) = some u := by
  intro j u hj
  match j, hj with
  | 0, hj => simp at hj; subst hj; simp [Addr.add]
theorem one_u64 (n : Int) : ∀ u ∈ [Value.int .u64 n], u.oneCell' = true := by
  intro u hu; simp at hu; subst hu; rfl
theorem one_bool (b : Bool) : ∀ u ∈ [Value.bool b], u.oneCell' = true := by
  intro u hu; simp at hu; subst hu; rfl
end Go.Proofs.Ytpbdffmgendboab
