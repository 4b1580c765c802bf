/- What a cell holds stays behind a new block, a draw, and a store elsewhere. -/
import Derived.Test.YtpbdffmgendboaaKit
import Derived.Deep.RegionHeld3
namespace Go.Proofs.Ytpbdffmgendboaa
open Go Go.RowKit
theorem keep_alloc {w : World} {o : Obj} {a : Addr} {v : Value} (h : w.cell? a = some v) : (w.alloc o).cell? a = some v :=
  (World.cell?_alloc_some w a o (by rw [h]; rfl)).trans h
theorem keep_drew {w : World} {a : Addr} {v : Value} (h : w.cell? a = some v) : w.drew.cell? a = some v := h
theorem keep_set {w : World} {p a : Addr} {u v : Value} (hne : p.block ≠ a.block) (h : w.cell? a = some v) : (w.setCell p u).cell? a = some v :=
  (World.cell?_setCell_far w p a u hne).trans h
theorem keep_alloc' {w : World} {o : Obj} {a : Addr} {v : Value} (_ : a.block < w.heap.size) (h : w.cell? a = some v) : (w.alloc o).cell? a = some v := keep_alloc h
theorem keepf_alloc' {w : World} {o : Obj} {a : Addr} {b : Bool} (hlt : a.block < w.heap.size) (h : w.frozen? a = b) : (w.alloc o).frozen? a = b :=
  (World.frozen?_alloc_old w o a (Nat.ne_of_lt hlt)).trans h
theorem keepf_drew {w : World} {a : Addr} {b : Bool} (h : w.frozen? a = b) : w.drew.frozen? a = b := h
end Go.Proofs.Ytpbdffmgendboaa
