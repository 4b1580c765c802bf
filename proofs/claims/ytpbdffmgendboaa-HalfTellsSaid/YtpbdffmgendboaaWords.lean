/- knuckleboneref02.Words at two rows that hold the same. -/
import Derived.Test.YtpbdffmgendboaaSl
namespace Go.Proofs.Ytpbdffmgendboaa
open Go Go.RowKit

set_option maxRecDepth 100000 in
set_option maxHeartbeats 400000 in
theorem words_same_nil (v1 v2 : Value) (c1 c2 : Nat) (a1 a2 : Option Addr) (w : World) : Calls Try.prog 42 #[.slice a1 0 c1, .slice a2 0 c2] w fun e w' => e = .returned (.bool true) ∧ Below w.heap.size w w' := by
  go_enter Try.func42, Try.ntmps42
  go_wp2
  refine wp_loop_rounds 1 ?_
  rw [rounds_succ]
  go_wp2
  go_ret
  exact ⟨rfl, by (repeat' (first | (with_reducible exact Below.refl _ _) | (with_reducible assumption) | (with_reducible refine Below.alloc ?_ ?_ _) | (with_reducible refine Below.drew ?_) | (with_reducible refine below_drewN ?_ _) | (with_reducible refine Below.setCell ?_ ?_ _) | (with_reducible refine Below.trans ?_ (Below.mono (by assumption) ?_)) | go_size))⟩

set_option maxRecDepth 100000 in
set_option maxHeartbeats 400000 in
theorem words_same (l : List (BitVec 64)) (hl : l.length ≤ 100000) (v1 v2 : Value) (lo1 lo2 : Nat) (w : World) (h1 : w.ownsRow lo1 22 1 v1 l.length (u64s l)) (h2 : w.ownsRow lo2 22 1 v2 l.length (u64s l)) :
    Calls Try.prog 42 #[v1, v2] w fun e w' => e = .returned (.bool true) ∧ Below w.heap.size w w' := by
  by_cases hz : l = []
  · subst hz
    rcases row_form h1 with ⟨rfl, _⟩ | ⟨g1, c1, rfl, _⟩ <;> rcases row_form h2 with ⟨rfl, _⟩ | ⟨g2, c2, rfl, _⟩ <;> exact words_same_nil (.bool true) (.bool true) _ _ _ _ w
  · have hpos : 0 < l.length := List.length_pos_iff.2 hz
    rcases row_form h1 with ⟨_, h0⟩ | ⟨g1, c1, rfl, _, _, k1, m1, hc1⟩
    · omega
    rcases row_form h2 with ⟨_, h0⟩ | ⟨g2, c2, rfl, _, _, k2, m2, hc2⟩
    · omega
    unfold maxLen at m1 m2
    have H1 := Lib.hid hc1
    have H2 := Lib.hid hc2
    clear h1 h2 hc1 hc2 hz
    go_enter Try.func42, Try.ntmps42
    go_wp2
    go_loopw [5] (fun i wr => ∃ k : Nat, k ≤ l.length ∧ i = .int .i64 k ∧ (∀ a, wr.cell? a = w.cell? a) ∧ Below w.heap.size w wr) (fun i _ => l.length - (intOf i).toNat)
    case atStart => exact ⟨0, by omega, rfl, fun _ => rfl, Below.refl _ _⟩
    case round =>
      obtain ⟨k, hk, rfl, hcell, hb⟩ := hrel
      by_cases hlt : k < l.length
      · have e1 : wr.cell? ⟨g1, k, none⟩ = some (.int .u64 ((l[k]'hlt).toNat : Nat)) := by rw [hcell, H1.out k hlt, u64s_at l k hlt]
        have e2 : wr.cell? ⟨g2, k, none⟩ = some (.int .u64 ((l[k]'hlt).toNat : Nat)) := by rw [hcell, H2.out k hlt, u64s_at l k hlt]
        have HC := Lib.hid hcell
        clear hcell
        go_wp2
        go_quiet (fail)
        go_wp2
        go_roundw
        case rel => exact ⟨k + 1, by omega, by go_num, fun a => HC.out a, by (repeat' (first | (with_reducible exact Below.refl _ _) | (with_reducible assumption) | (with_reducible refine Below.alloc ?_ ?_ _) | (with_reducible refine Below.drew ?_) | (with_reducible refine below_drewN ?_ _) | (with_reducible refine Below.setCell ?_ ?_ _) | (with_reducible refine Below.trans ?_ (Below.mono (by assumption) ?_)) | go_size))⟩
        case measure => simp [intOf]; omega
      · obtain rfl : k = l.length := by omega
        clear hcell
        go_wp2
        go_ret
        exact ⟨rfl, by (repeat' (first | (with_reducible exact Below.refl _ _) | (with_reducible assumption) | (with_reducible refine Below.alloc ?_ ?_ _) | (with_reducible refine Below.drew ?_) | (with_reducible refine below_drewN ?_ _) | (with_reducible refine Below.setCell ?_ ?_ _) | (with_reducible refine Below.trans ?_ (Below.mono (by assumption) ?_)) | go_size))⟩
end Go.Proofs.Ytpbdffmgendboaa
