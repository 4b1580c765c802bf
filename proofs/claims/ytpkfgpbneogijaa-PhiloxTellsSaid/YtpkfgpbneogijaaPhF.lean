/- philox.Unmix: a range over slices.Backward. -/
import Derived.Test.YtpkfgpbneogijaaPhE
import Derived.RangeFuncNested
import Derived.RangeFuncBound
import Derived.RangeFuncCalls
import Derived.RangeFuncLeaves
import Derived.Shelf.Abstract
import Derived.Shelf.RegionOpen
import Derived.OwnWalkIn
import Derived.TacticsInMore
import Derived.LoopNIn
import Derived.LoopIn
namespace Go.Proofs.Ytpkfgpbneogijaa
open Go Go.RowKit Go.Shelf

attribute [local go_sem] Oper.semAt_some

/- what has come when k rounds are over: n - 1, .., n - k -/
def came (n : Nat) : (k : Nat) → k ≤ n → List (Fin n)
  | 0, _ => []
  | k + 1, h => came n k (by omega) ++ [⟨n - 1 - k, by omega⟩]
theorem came_length (n : Nat) : ∀ k (h : k ≤ n), (came n k h).length = k
  | 0, _ => rfl
  | k + 1, h => by simp [came, came_length n k (by omega)]
def unfold1 {n : Nat} (k : Key) (b : Blk) (x : Fin n) : Blk := Ph.unround b (Ph.keyAt x.1 k)
theorem came_fold (n : Nat) (b : Blk) (key : Key) : ∀ k (h : k ≤ n), (came n k h).foldl (unfold1 key) b = Ph.unmixTo n b key k
  | 0, _ => rfl
  | k + 1, h => by
    simp only [came, List.foldl_append, List.foldl_cons, List.foldl_nil, came_fold n b key k (by omega)]
    rfl

/- what lies from lo on below hi stays as it was -/
structure Span (lo hi : Nat) (w w' : World) : Prop where
  size : w.heap.size ≤ w'.heap.size
  block : ∀ b, lo ≤ b → b < hi → w'.heap[b]? = w.heap[b]?
theorem Span.refl (lo hi : Nat) (w : World) : Span lo hi w w := ⟨Nat.le_refl _, fun _ _ _ => rfl⟩
theorem Span.trans {lo hi : Nat} {a b c : World} (h : Span lo hi a b) (k : Span lo hi b c) : Span lo hi a c :=
  ⟨Nat.le_trans h.size k.size, fun i hl hi => (k.block i hl hi).trans (h.block i hl hi)⟩
theorem Span.cell {lo hi : Nat} {w w' : World} (h : Span lo hi w w') {p : Addr} (hl : lo ≤ p.block) (hh : p.block < hi) : w'.cell? p = w.cell? p := World.cell?_of_block (h.block _ hl hh)

def encB (B : Nat → Nat) (n : Nat) (x : Fin n) : Array Value := #[.int .i64 ((x.1 : Nat) : Int), .agg #[fnF (B x.1), fnB (B x.1)]]

set_option maxRecDepth 100000 in
set_option maxHeartbeats 2000000 in
/-- slices.Backward's closure: for every loop body that keeps what lay from lo on below hi. -/
theorem backward1_in (F : Fence) (d : Nat) (hF : F.fn 60) (hro : F.round = none) (hd : 1 ≤ d) (l Bs lo hi n : Nat) (p : Option Addr) (cap : Nat) (B : Nat → Nat) (hn : n ≤ 100) (hcap : n ≤ cap)
    (hl0 : lo ≤ Bs) (hl1 : Bs < hi) (J Jx : List (Fin n) → World → Prop)
    (hY : ∀ pre x W, J pre W → pre.length < n → YieldAt F (d - 1) Try.prog l (encB B n x) W fun e W' =>
      (e = .returned (.bool true) ∧ J (pre ++ [x]) W' ∧ Span lo hi W W') ∨ (e = .returned (.bool false) ∧ Jx (pre ++ [x]) W'))
    (W : World) (hBs : W.cell? ⟨Bs, 0, none⟩ = some (.slice p n cap))
    (hc : ∀ j, j < n → ∃ g, p = some ⟨g, 0, none⟩ ∧ lo ≤ g ∧ g < hi ∧ W.cell? ⟨g, j * 2, none⟩ = some (fnF (B j)) ∧ W.cell? ⟨g, j * 2 + 1, none⟩ = some (fnB (B j))) (h0 : J [] W) :
    CallsIn F d Try.prog 60 #[.func (.yield l) #[] #[], .pointer (some ⟨Bs, 0, none⟩)] W fun e W' => (∃ v, e = .returned v) ∧
      ((∃ ys, ys = came n n (Nat.le_refl _) ∧ J ys W') ∨ (∃ pre, (∃ k h, pre = came n k h) ∧ Jx pre W')) := by
  refine callsIn_of_wp Try.func60 rfl hF ?_ hro
  simp only [Try.ntmps60, List.size_toArray, List.length_cons, List.length_nil, Nat.reduceAdd, Nat.reduceSub, Array.replicate_succ, Array.replicate_zero, List.push_toArray, List.append_toArray, List.nil_append, List.cons_append]
  gi_wp2
  gi_loopw [3] (fun i wr => ∃ (m k : Nat) (h : k + m = n), i = .int .i64 ((m : Int) - 1) ∧ J (came n k (by omega)) wr ∧ Span lo hi W wr)
    (fun i _ => (intOf i + 1).toNat)
  case atStart => exact ⟨n, 0, by omega, by go_num, h0, Span.refl _ _ _⟩
  case round =>
    obtain ⟨m, k, hk, rfl, hJs, hnx⟩ := hrel
    have hBw := (hnx.cell (p := ⟨Bs, 0, none⟩) hl0 hl1).trans hBs
    cases m with
    | zero =>
      gi_wp2
      go_end0
      obtain rfl : k = n := by omega
      exact ⟨⟨_, rfl⟩, .inl ⟨_, rfl, hJs⟩⟩
    | succ m =>
      have e1 : ((m + 1 : Nat) : Int) - 1 = (m : Int) := by omega
      rw [e1]
      have hmn : m < n := by omega
      obtain ⟨g, rfl, hg0, hg1, hcF, hcB⟩ := hc m hmn
      have cF := (hnx.cell (p := ⟨g, m * 2, none⟩) hg0 hg1).trans hcF
      have cB := (hnx.cell (p := ⟨g, m * 2 + 1, none⟩) hg0 hg1).trans hcB
      unfold fnF at cF
      unfold fnB at cB
      obtain ⟨fn, tmps, assign, body, hy, hR⟩ := hY _ ⟨m, hmn⟩ wr hJs (by rw [came_length]; omega)
      unfold encB fnF fnB at hy
      dsimp only at hy
      clear hc hcF hcB hBs
      gi_wp2
      refine hR.mono ?_
      rintro e W3 (⟨rfl, hJ3, hk3⟩ | ⟨rfl, hJx3⟩)
      · gi_wp2
        go_roundw
        case rel =>
          refine ⟨m, k + 1, by omega, by go_num, ?_, hnx.trans hk3⟩
          have e2 : (⟨m, hmn⟩ : Fin n) = ⟨n - 1 - k, by omega⟩ := Fin.ext (by show m = n - 1 - k; omega)
          rw [came, ← e2]; exact hJ3
        case measure => simp [intOf]
      · gi_wp2
        refine bodyPost_ret (results_none rfl _ _ _) rfl ?_
        refine ⟨⟨_, rfl⟩, .inr ⟨_, ⟨k + 1, by omega, ?_⟩, hJx3⟩⟩
        have e2 : (⟨m, hmn⟩ : Fin n) = ⟨n - 1 - k, by omega⟩ := Fin.ext (by show m = n - 1 - k; omega)
        rw [came, ← e2]

set_option maxHeartbeats 1000000 in
theorem backward_in (F : Fence) (d : Nat) (hF : F.fn 50) (hro : F.round = none) (a : Option Addr) (len cap : Nat) (w : World) :
    CallsIn F d Try.prog 50 #[.slice a len cap] w fun e w' =>
      e = .returned (.func (.func 60) #[] #[.pointer (some ⟨w.heap.size, 0, none⟩)]) ∧ w' = w.alloc (.cells #[.slice a len cap] 73) := by
  refine callsIn_of_wp Try.func50 rfl hF ?_ hro
  simp only [Try.ntmps50, List.size_toArray, List.length_cons, List.length_nil, Nat.reduceAdd, Nat.reduceSub, Array.replicate_succ, Array.replicate_zero, List.push_toArray, List.append_toArray, List.nil_append, List.cons_append]
  gi_wp2
  go_ret
  exact ⟨rfl, rfl⟩

/-- The closure that Backward hands back, as an iterator. -/
theorem backward_stops (F : Fence) (d : Nat) (hF : F.fn 60) (hro : F.round = none) (hd : 1 ≤ d) (Bs lo n : Nat) (p : Option Addr) (cap : Nat) (B : Nat → Nat) (hn : n ≤ 100) (hcap : n ≤ cap) (w : World)
    (hl0 : lo ≤ Bs) (hl1 : Bs < w.heap.size) (hBs : w.cell? ⟨Bs, 0, none⟩ = some (.slice p n cap))
    (hc : ∀ j, j < n → ∃ g, p = some ⟨g, 0, none⟩ ∧ lo ≤ g ∧ g < w.heap.size ∧ w.cell? ⟨g, j * 2, none⟩ = some (fnF (B j)) ∧ w.cell? ⟨g, j * 2 + 1, none⟩ = some (fnB (B j))) :
    SeqStopsK F d Try.prog 60 #[.pointer (some ⟨Bs, 0, none⟩)] (encB B n) (Span lo w.heap.size) (fun ys => ys = came n n (Nat.le_refl _)) (fun pre => ∃ k h, pre = came n k h) n w := fun l J Jx W hW _ _ hY h0 =>
  backward1_in F d hF hro hd l Bs lo w.heap.size n p cap B hn hcap hl0 hl1 J Jx hY W ((hW.cell (p := ⟨Bs, 0, none⟩) hl1).trans hBs)
    (fun j hj => by
      obtain ⟨g, e, h1, h2, h3, h4⟩ := hc j hj
      exact ⟨g, e, h1, h2, (hW.cell (p := ⟨g, j * 2, none⟩) h2).trans h3, (hW.cell (p := ⟨g, j * 2 + 1, none⟩) h2).trans h4⟩) h0

set_option maxRecDepth 100000 in
theorem back_c (b0 b1 b2 b3 k0 k1 : BitVec 32) (B : Nat) (w : World) (h0 : w.cell? ⟨B, 0, none⟩ = some (.int .u32 k0.toNat)) (h1 : w.cell? ⟨B, 1, none⟩ = some (.int .u32 k1.toNat)) :
    Calls Try.prog 59 #[.agg #[.int .u32 b0.toNat, .int .u32 b1.toNat, .int .u32 b2.toNat, .int .u32 b3.toNat], .pointer (some ⟨B, 0, none⟩)] w fun e w' =>
      e = .returned (.agg #[.int .u32 (Ph.unround ⟨b0, b1, b2, b3⟩ ⟨k0, k1⟩).a.toNat, .int .u32 (Ph.unround ⟨b0, b1, b2, b3⟩ ⟨k0, k1⟩).b.toNat, .int .u32 (Ph.unround ⟨b0, b1, b2, b3⟩ ⟨k0, k1⟩).c.toNat, .int .u32 (Ph.unround ⟨b0, b1, b2, b3⟩ ⟨k0, k1⟩).d.toNat]) ∧ Below w.heap.size w w' := by
  have hB : B < w.heap.size := lt_cell h0
  have hx0 : ((w.alloc (.cells #[.int .u32 b0.toNat, .int .u32 b1.toNat, .int .u32 b2.toNat, .int .u32 b3.toNat] 24)).alloc (.cells #[.int .u32 0, .int .u32 0, .int .u32 0, .int .u32 0] 24)).cell? ⟨B, 0, none⟩ = some (.int .u32 k0.toNat) := Mid.cell (lo := 0) (w := w) (by (repeat' (first | (with_reducible exact Mid.refl _ _) | (with_reducible assumption) | (with_reducible refine Mid.alloc ?_ _) | (with_reducible refine Mid.drew ?_) | (with_reducible refine Mid.drewN ?_ _) | (with_reducible refine Mid.setCell ?_ ?_ _) | (with_reducible refine Mid.below ?_ (by assumption)) | go_size))) (Nat.zero_le _) hB h0
  have hx1 : ((w.alloc (.cells #[.int .u32 b0.toNat, .int .u32 b1.toNat, .int .u32 b2.toNat, .int .u32 b3.toNat] 24)).alloc (.cells #[.int .u32 0, .int .u32 0, .int .u32 0, .int .u32 0] 24)).cell? ⟨B, 1, none⟩ = some (.int .u32 k1.toNat) := Mid.cell (lo := 0) (w := w) (by (repeat' (first | (with_reducible exact Mid.refl _ _) | (with_reducible assumption) | (with_reducible refine Mid.alloc ?_ _) | (with_reducible refine Mid.drew ?_) | (with_reducible refine Mid.drewN ?_ _) | (with_reducible refine Mid.setCell ?_ ?_ _) | (with_reducible refine Mid.below ?_ (by assumption)) | go_size))) (Nat.zero_le _) hB h1
  go_enter Try.func59, Try.ntmps59
  go_wp2_with fail
  refine (unround_c _ _ _ _ _ _ _).mono ?_
  rintro e w1 ⟨rfl, hb1⟩
  have hz1 := hb1.size; (try simp at hz1)
  have kc1w_heap_size___1_0 : w1.cell? ⟨w.heap.size + 1, 0, none⟩ = some (.int .u32 0) := (hb1.cell (p := ⟨w.heap.size + 1, 0, none⟩) (by first | omega | (simp; done) | (simp; omega))).trans (by go_simp); have kf1w_heap_size___1_0 : w1.frozen? ⟨w.heap.size + 1, 0, none⟩ = false := (hb1.frozen (p := ⟨w.heap.size + 1, 0, none⟩) (by first | omega | (simp; done) | (simp; omega))).trans (by go_simp); have kc1w_heap_size___1_1 : w1.cell? ⟨w.heap.size + 1, 1, none⟩ = some (.int .u32 0) := (hb1.cell (p := ⟨w.heap.size + 1, 1, none⟩) (by first | omega | (simp; done) | (simp; omega))).trans (by go_simp); have kf1w_heap_size___1_1 : w1.frozen? ⟨w.heap.size + 1, 1, none⟩ = false := (hb1.frozen (p := ⟨w.heap.size + 1, 1, none⟩) (by first | omega | (simp; done) | (simp; omega))).trans (by go_simp); have kc1w_heap_size___1_2 : w1.cell? ⟨w.heap.size + 1, 2, none⟩ = some (.int .u32 0) := (hb1.cell (p := ⟨w.heap.size + 1, 2, none⟩) (by first | omega | (simp; done) | (simp; omega))).trans (by go_simp); have kf1w_heap_size___1_2 : w1.frozen? ⟨w.heap.size + 1, 2, none⟩ = false := (hb1.frozen (p := ⟨w.heap.size + 1, 2, none⟩) (by first | omega | (simp; done) | (simp; omega))).trans (by go_simp); have kc1w_heap_size___1_3 : w1.cell? ⟨w.heap.size + 1, 3, none⟩ = some (.int .u32 0) := (hb1.cell (p := ⟨w.heap.size + 1, 3, none⟩) (by first | omega | (simp; done) | (simp; omega))).trans (by go_simp); have kf1w_heap_size___1_3 : w1.frozen? ⟨w.heap.size + 1, 3, none⟩ = false := (hb1.frozen (p := ⟨w.heap.size + 1, 3, none⟩) (by first | omega | (simp; done) | (simp; omega))).trans (by go_simp)
  clear hx0 hx1 h0 h1
  go_wp2
  refine bodyPost_ret (v := .agg #[.int .u32 (Ph.unround ⟨b0, b1, b2, b3⟩ ⟨k0, k1⟩).a.toNat, .int .u32 (Ph.unround ⟨b0, b1, b2, b3⟩ ⟨k0, k1⟩).b.toNat, .int .u32 (Ph.unround ⟨b0, b1, b2, b3⟩ ⟨k0, k1⟩).c.toNat, .int .u32 (Ph.unround ⟨b0, b1, b2, b3⟩ ⟨k0, k1⟩).d.toNat]) (by simp [results, Try.results59, go_sem, *]) rfl ?_
  exact ⟨rfl, by (repeat' (first | (with_reducible exact Below.refl _ _) | (with_reducible assumption) | (with_reducible refine Below.alloc ?_ ?_ _) | (with_reducible refine Below.drew ?_) | (with_reducible refine below_drewN ?_ _) | (with_reducible refine Below.setCell ?_ ?_ _) | (with_reducible refine Below.trans ?_ (Below.mono (by assumption) ?_)) | go_size))⟩
end Go.Proofs.Ytpkfgpbneogijaa
