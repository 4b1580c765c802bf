/- Acts that are handed in. -/
import Derived.Test.YtpbdffmgendboabTbMore
namespace Go.Proofs.Ytpbdffmgendboab
open Go Go.RowKit
namespace Tb
structure Act where
  d : Int
  h : Int
  x : BitVec 64
instance : Inhabited Act := ⟨⟨0, 0, 0#64⟩⟩
def Acts (w : World) (v : Value) (l : List Act) : Prop := ∃ ad cap, v = .slice ad l.length cap ∧ (∀ a ∈ l, -9223372036854775808 ≤ a.h ∧ a.h ≤ 9223372036854775807) ∧
  ∀ k a, l[k]? = some a → ∃ g o, ad = some ⟨g, o, none⟩ ∧ w.cell? ⟨g, o + k * 3, none⟩ = some (.int .i64 a.d) ∧ w.cell? ⟨g, o + k * 3 + 1, none⟩ = some (.int .i64 a.h) ∧ w.cell? ⟨g, o + k * 3 + 2, none⟩ = some (.int .u64 (a.x.toNat : Nat))
theorem doh0 {s : S} {d h : Int} (e : d = 0) : s.doh d h = s.addh := if_pos e
theorem doe0 {s : S} {d h : Int} (e : d = 0) : s.doe d h = s.adde := if_pos e
theorem act0 {s : S} {d h : Int} {x : BitVec 64} (e : d = 0) : s.act d h x = s.add x := if_pos e
theorem doh1 {s : S} {d h : Int} {b : Bool} (e : d = 1) (k : s.has h = b) : s.doh d h = if b then 1 else 0 := by
  subst e; show (if s.has h = true then (1 : Int) else 0) = _; rw [k]
theorem doe1 {s : S} {d h : Int} (e : d = 1) : s.doe d h = 0 := by subst e; rfl
theorem act1 {s : S} {d h : Int} {x : BitVec 64} (e : d = 1) : s.act d h x = s.drop h := by subst e; rfl
theorem doh2 {s : S} {d h : Int} (e : d = 2) : s.doh d h = 0 := by subst e; rfl
theorem doe2 {s : S} {d h : Int} (e : d = 2) : s.doe d h = s.laye h := by subst e; rfl
theorem act2 {s : S} {d h : Int} {x : BitVec 64} (e : d = 2) : s.act d h x = s.lay h x := by subst e; rfl
theorem doh3 {s : S} {d h : Int} (e : d = 3) : s.doh d h = 0 := by subst e; rfl
theorem doe3 {s : S} {d h : Int} (e : d = 3) : s.doe d h = s.goese h := by subst e; rfl
theorem act3 {s : S} {d h : Int} {x : BitVec 64} (e : d = 3) : s.act d h x = s.goes h := by subst e; rfl
theorem doh4 {s : S} {d h : Int} (h0 : d ≠ 0) (h1 : d ≠ 1) : s.doh d h = 0 := by unfold S.doh; rw [if_neg h0, if_neg h1]
theorem doe4 {s : S} {d h : Int} (h0 : d ≠ 0) (h1 : d ≠ 1) (h2 : d ≠ 2) (h3 : d ≠ 3) : s.doe d h = 0 := by unfold S.doe; rw [if_neg h0, if_neg h1, if_neg h2, if_neg h3]
theorem act4 {s : S} {d h : Int} {x : BitVec 64} (h0 : d ≠ 0) (h1 : d ≠ 1) (h2 : d ≠ 2) (h3 : d ≠ 3) : s.act d h x = s := by unfold S.act; rw [if_neg h0, if_neg h1, if_neg h2, if_neg h3]
end Tb
end Go.Proofs.Ytpbdffmgendboab
