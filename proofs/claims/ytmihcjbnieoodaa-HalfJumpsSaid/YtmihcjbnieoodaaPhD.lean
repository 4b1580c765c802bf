/- philox.Mix: the closures are called one behind the other. -/
import Derived.Test.YtmihcjbnieoodaaPhC
namespace Go.Proofs.Ytmihcjbnieoodaa
open Go Go.RowKit

set_option maxRecDepth 100000 in
theorem forth_c (b0 b1 b2 b3 k0 k1 : BitVec 32) (B : Nat) (w : World) (h0 : w.cell? ⟨B, 0, none⟩ = some (.int .u32 k0.toNat)) (h1 : w.cell? ⟨B, 1, none⟩ = some (.int .u32 k1.toNat)) :
    Calls Try.prog 95 #[.agg #[.int .u32 b0.toNat, .int .u32 b1.toNat, .int .u32 b2.toNat, .int .u32 b3.toNat], .pointer (some ⟨B, 0, none⟩)] w fun e w' =>
      e = .returned (.agg #[.int .u32 (Ph.round ⟨b0, b1, b2, b3⟩ ⟨k0, k1⟩).a.toNat, .int .u32 (Ph.round ⟨b0, b1, b2, b3⟩ ⟨k0, k1⟩).b.toNat, .int .u32 (Ph.round ⟨b0, b1, b2, b3⟩ ⟨k0, k1⟩).c.toNat, .int .u32 (Ph.round ⟨b0, b1, b2, b3⟩ ⟨k0, k1⟩).d.toNat]) ∧ Below w.heap.size w w' := by
  have hB : B < w.heap.size := by
    unfold World.cell? at h0
    by_cases h : B < w.heap.size
    · exact h
    · rw [Array.getElem?_eq_none (by simpa using h)] at h0; simp at h0
  have hx0 : ((w.alloc (.cells #[.int .u32 b0.toNat, .int .u32 b1.toNat, .int .u32 b2.toNat, .int .u32 b3.toNat] 60)).alloc (.cells #[.int .u32 0, .int .u32 0, .int .u32 0, .int .u32 0] 60)).cell? ⟨B, 0, none⟩ = some (.int .u32 k0.toNat) := Mid.cell (lo := 0) (w := w) (by (repeat' (first | (with_reducible exact Mid.refl _ _) | (with_reducible assumption) | (with_reducible refine Mid.alloc ?_ _) | (with_reducible refine Mid.drew ?_) | (with_reducible refine Mid.drewN ?_ _) | (with_reducible refine Mid.setCell ?_ ?_ _) | (with_reducible refine Mid.below ?_ (by assumption)) | go_size))) (Nat.zero_le _) hB h0
  have hx1 : ((w.alloc (.cells #[.int .u32 b0.toNat, .int .u32 b1.toNat, .int .u32 b2.toNat, .int .u32 b3.toNat] 60)).alloc (.cells #[.int .u32 0, .int .u32 0, .int .u32 0, .int .u32 0] 60)).cell? ⟨B, 1, none⟩ = some (.int .u32 k1.toNat) := Mid.cell (lo := 0) (w := w) (by (repeat' (first | (with_reducible exact Mid.refl _ _) | (with_reducible assumption) | (with_reducible refine Mid.alloc ?_ _) | (with_reducible refine Mid.drew ?_) | (with_reducible refine Mid.drewN ?_ _) | (with_reducible refine Mid.setCell ?_ ?_ _) | (with_reducible refine Mid.below ?_ (by assumption)) | go_size))) (Nat.zero_le _) hB h1
  go_enter Try.func95, Try.ntmps95
  go_wp2_with fail
  refine (round_c _ _ _ _ _ _ _).mono ?_
  rintro e w1 ⟨rfl, hb1⟩
  have hz1 := hb1.size; (try simp at hz1)
  have kc1w_heap_size___1_0 : w1.cell? ⟨w.heap.size + 1, 0, none⟩ = some (.int .u32 0) := (hb1.cell (p := ⟨w.heap.size + 1, 0, none⟩) (by first | omega | (simp; done) | (simp; omega))).trans (by go_simp); have kf1w_heap_size___1_0 : w1.frozen? ⟨w.heap.size + 1, 0, none⟩ = false := (hb1.frozen (p := ⟨w.heap.size + 1, 0, none⟩) (by first | omega | (simp; done) | (simp; omega))).trans (by go_simp); have kc1w_heap_size___1_1 : w1.cell? ⟨w.heap.size + 1, 1, none⟩ = some (.int .u32 0) := (hb1.cell (p := ⟨w.heap.size + 1, 1, none⟩) (by first | omega | (simp; done) | (simp; omega))).trans (by go_simp); have kf1w_heap_size___1_1 : w1.frozen? ⟨w.heap.size + 1, 1, none⟩ = false := (hb1.frozen (p := ⟨w.heap.size + 1, 1, none⟩) (by first | omega | (simp; done) | (simp; omega))).trans (by go_simp); have kc1w_heap_size___1_2 : w1.cell? ⟨w.heap.size + 1, 2, none⟩ = some (.int .u32 0) := (hb1.cell (p := ⟨w.heap.size + 1, 2, none⟩) (by first | omega | (simp; done) | (simp; omega))).trans (by go_simp); have kf1w_heap_size___1_2 : w1.frozen? ⟨w.heap.size + 1, 2, none⟩ = false := (hb1.frozen (p := ⟨w.heap.size + 1, 2, none⟩) (by first | omega | (simp; done) | (simp; omega))).trans (by go_simp); have kc1w_heap_size___1_3 : w1.cell? ⟨w.heap.size + 1, 3, none⟩ = some (.int .u32 0) := (hb1.cell (p := ⟨w.heap.size + 1, 3, none⟩) (by first | omega | (simp; done) | (simp; omega))).trans (by go_simp); have kf1w_heap_size___1_3 : w1.frozen? ⟨w.heap.size + 1, 3, none⟩ = false := (hb1.frozen (p := ⟨w.heap.size + 1, 3, none⟩) (by first | omega | (simp; done) | (simp; omega))).trans (by go_simp)
  clear hx0 hx1 h0 h1
  go_wp2
  refine bodyPost_ret (v := .agg #[.int .u32 (Ph.round ⟨b0, b1, b2, b3⟩ ⟨k0, k1⟩).a.toNat, .int .u32 (Ph.round ⟨b0, b1, b2, b3⟩ ⟨k0, k1⟩).b.toNat, .int .u32 (Ph.round ⟨b0, b1, b2, b3⟩ ⟨k0, k1⟩).c.toNat, .int .u32 (Ph.round ⟨b0, b1, b2, b3⟩ ⟨k0, k1⟩).d.toNat]) (by simp [results, Try.results95, go_sem, *]) rfl ?_
  exact ⟨rfl, by (repeat' (first | (with_reducible exact Below.refl _ _) | (with_reducible assumption) | (with_reducible refine Below.alloc ?_ ?_ _) | (with_reducible refine Below.drew ?_) | (with_reducible refine below_drewN ?_ _) | (with_reducible refine Below.setCell ?_ ?_ _) | (with_reducible refine Below.trans ?_ (Below.mono (by assumption) ?_)) | go_size))⟩

def MixPost (w : World) (r : Blk) (err : Int) (e : Ending) (w' : World) : Prop :=
  e = .returned (.tuple #[.agg #[.int .u32 (r).a.toNat, .int .u32 (r).b.toNat, .int .u32 (r).c.toNat, .int .u32 (r).d.toNat], .int .i64 err]) ∧ Below w.heap.size w w'

set_option maxRecDepth 100000 in
theorem mix_no (n : Int) (h : n < 0 ∨ 100 < n) (b0 b1 b2 b3 k0 k1 : BitVec 32) (w : World) :
    Calls Try.prog 86 #[.agg #[.int .u32 b0.toNat, .int .u32 b1.toNat, .int .u32 b2.toNat, .int .u32 b3.toNat], .agg #[.int .u32 k0.toNat, .int .u32 k1.toNat], .int .i64 n] w fun e w' =>
      e = .returned (.tuple #[.agg #[.int .u32 0, .int .u32 0, .int .u32 0, .int .u32 0], .int .i64 1]) ∧ Below w.heap.size w w' := by
  go_enter Try.func86, Try.ntmps86
  go_wp2_with fail
  refine (steps_no n h _ _ _).mono ?_
  rintro e w1 ⟨rfl, hb1⟩
  have hz1 := hb1.size; (try simp at hz1)
  have kc1w_heap_size___1___1_0 : w1.cell? ⟨w.heap.size + 1 + 1, 0, none⟩ = some (.int .u32 0) := (hb1.cell (p := ⟨w.heap.size + 1 + 1, 0, none⟩) (by first | omega | (simp; done) | (simp; omega))).trans (by go_simp); have kf1w_heap_size___1___1_0 : w1.frozen? ⟨w.heap.size + 1 + 1, 0, none⟩ = false := (hb1.frozen (p := ⟨w.heap.size + 1 + 1, 0, none⟩) (by first | omega | (simp; done) | (simp; omega))).trans (by go_simp); have kc1w_heap_size___1___1_1 : w1.cell? ⟨w.heap.size + 1 + 1, 1, none⟩ = some (.int .u32 0) := (hb1.cell (p := ⟨w.heap.size + 1 + 1, 1, none⟩) (by first | omega | (simp; done) | (simp; omega))).trans (by go_simp); have kf1w_heap_size___1___1_1 : w1.frozen? ⟨w.heap.size + 1 + 1, 1, none⟩ = false := (hb1.frozen (p := ⟨w.heap.size + 1 + 1, 1, none⟩) (by first | omega | (simp; done) | (simp; omega))).trans (by go_simp); have kc1w_heap_size___1___1_2 : w1.cell? ⟨w.heap.size + 1 + 1, 2, none⟩ = some (.int .u32 0) := (hb1.cell (p := ⟨w.heap.size + 1 + 1, 2, none⟩) (by first | omega | (simp; done) | (simp; omega))).trans (by go_simp); have kf1w_heap_size___1___1_2 : w1.frozen? ⟨w.heap.size + 1 + 1, 2, none⟩ = false := (hb1.frozen (p := ⟨w.heap.size + 1 + 1, 2, none⟩) (by first | omega | (simp; done) | (simp; omega))).trans (by go_simp); have kc1w_heap_size___1___1_3 : w1.cell? ⟨w.heap.size + 1 + 1, 3, none⟩ = some (.int .u32 0) := (hb1.cell (p := ⟨w.heap.size + 1 + 1, 3, none⟩) (by first | omega | (simp; done) | (simp; omega))).trans (by go_simp); have kf1w_heap_size___1___1_3 : w1.frozen? ⟨w.heap.size + 1 + 1, 3, none⟩ = false := (hb1.frozen (p := ⟨w.heap.size + 1 + 1, 3, none⟩) (by first | omega | (simp; done) | (simp; omega))).trans (by go_simp)
  go_wp2
  refine bodyPost_ret (v := .tuple #[.agg #[.int .u32 0, .int .u32 0, .int .u32 0, .int .u32 0], .int .i64 1]) (by simp [results, Try.results86, go_sem, *]) rfl ?_
  exact ⟨rfl, by (repeat' (first | (with_reducible exact Below.refl _ _) | (with_reducible assumption) | (with_reducible refine Below.alloc ?_ ?_ _) | (with_reducible refine Below.drew ?_) | (with_reducible refine below_drewN ?_ _) | (with_reducible refine Below.setCell ?_ ?_ _) | (with_reducible refine Below.trans ?_ (Below.mono (by assumption) ?_)) | go_size))⟩

set_option maxRecDepth 100000 in
theorem mix_ok (n : Nat) (hn : n ≤ 100) (b0 b1 b2 b3 k0 k1 : BitVec 32) (w : World) :
    Calls Try.prog 86 #[.agg #[.int .u32 b0.toNat, .int .u32 b1.toNat, .int .u32 b2.toNat, .int .u32 b3.toNat], .agg #[.int .u32 k0.toNat, .int .u32 k1.toNat], .int .i64 n] w fun e w' =>
      e = .returned (.tuple #[.agg #[.int .u32 (Ph.mix n ⟨b0, b1, b2, b3⟩ ⟨k0, k1⟩).a.toNat, .int .u32 (Ph.mix n ⟨b0, b1, b2, b3⟩ ⟨k0, k1⟩).b.toNat, .int .u32 (Ph.mix n ⟨b0, b1, b2, b3⟩ ⟨k0, k1⟩).c.toNat, .int .u32 (Ph.mix n ⟨b0, b1, b2, b3⟩ ⟨k0, k1⟩).d.toNat], .int .i64 0]) ∧ Below w.heap.size w w' := by
  go_enter Try.func86, Try.ntmps86
  go_wp2_with fail
  refine (steps_ok n hn _ _ _).mono ?_
  rintro e w1 ⟨v, rfl, ⟨B, hkeys, hown⟩, hb1⟩
  have hz1 := hb1.size; (try simp at hz1)
  have kc1w_heap_size_0 : w1.cell? ⟨w.heap.size, 0, none⟩ = some (.int .u32 b0.toNat) := (hb1.cell (p := ⟨w.heap.size, 0, none⟩) (by first | omega | (simp; done) | (simp; omega))).trans (by go_simp); have kf1w_heap_size_0 : w1.frozen? ⟨w.heap.size, 0, none⟩ = false := (hb1.frozen (p := ⟨w.heap.size, 0, none⟩) (by first | omega | (simp; done) | (simp; omega))).trans (by go_simp); have kc1w_heap_size_1 : w1.cell? ⟨w.heap.size, 1, none⟩ = some (.int .u32 b1.toNat) := (hb1.cell (p := ⟨w.heap.size, 1, none⟩) (by first | omega | (simp; done) | (simp; omega))).trans (by go_simp); have kf1w_heap_size_1 : w1.frozen? ⟨w.heap.size, 1, none⟩ = false := (hb1.frozen (p := ⟨w.heap.size, 1, none⟩) (by first | omega | (simp; done) | (simp; omega))).trans (by go_simp); have kc1w_heap_size_2 : w1.cell? ⟨w.heap.size, 2, none⟩ = some (.int .u32 b2.toNat) := (hb1.cell (p := ⟨w.heap.size, 2, none⟩) (by first | omega | (simp; done) | (simp; omega))).trans (by go_simp); have kf1w_heap_size_2 : w1.frozen? ⟨w.heap.size, 2, none⟩ = false := (hb1.frozen (p := ⟨w.heap.size, 2, none⟩) (by first | omega | (simp; done) | (simp; omega))).trans (by go_simp); have kc1w_heap_size_3 : w1.cell? ⟨w.heap.size, 3, none⟩ = some (.int .u32 b3.toNat) := (hb1.cell (p := ⟨w.heap.size, 3, none⟩) (by first | omega | (simp; done) | (simp; omega))).trans (by go_simp); have kf1w_heap_size_3 : w1.frozen? ⟨w.heap.size, 3, none⟩ = false := (hb1.frozen (p := ⟨w.heap.size, 3, none⟩) (by first | omega | (simp; done) | (simp; omega))).trans (by go_simp)
  have kc1w_heap_size___1___1_0 : w1.cell? ⟨w.heap.size + 1 + 1, 0, none⟩ = some (.int .u32 0) := (hb1.cell (p := ⟨w.heap.size + 1 + 1, 0, none⟩) (by first | omega | (simp; done) | (simp; omega))).trans (by go_simp); have kf1w_heap_size___1___1_0 : w1.frozen? ⟨w.heap.size + 1 + 1, 0, none⟩ = false := (hb1.frozen (p := ⟨w.heap.size + 1 + 1, 0, none⟩) (by first | omega | (simp; done) | (simp; omega))).trans (by go_simp); have kc1w_heap_size___1___1_1 : w1.cell? ⟨w.heap.size + 1 + 1, 1, none⟩ = some (.int .u32 0) := (hb1.cell (p := ⟨w.heap.size + 1 + 1, 1, none⟩) (by first | omega | (simp; done) | (simp; omega))).trans (by go_simp); have kf1w_heap_size___1___1_1 : w1.frozen? ⟨w.heap.size + 1 + 1, 1, none⟩ = false := (hb1.frozen (p := ⟨w.heap.size + 1 + 1, 1, none⟩) (by first | omega | (simp; done) | (simp; omega))).trans (by go_simp); have kc1w_heap_size___1___1_2 : w1.cell? ⟨w.heap.size + 1 + 1, 2, none⟩ = some (.int .u32 0) := (hb1.cell (p := ⟨w.heap.size + 1 + 1, 2, none⟩) (by first | omega | (simp; done) | (simp; omega))).trans (by go_simp); have kf1w_heap_size___1___1_2 : w1.frozen? ⟨w.heap.size + 1 + 1, 2, none⟩ = false := (hb1.frozen (p := ⟨w.heap.size + 1 + 1, 2, none⟩) (by first | omega | (simp; done) | (simp; omega))).trans (by go_simp); have kc1w_heap_size___1___1_3 : w1.cell? ⟨w.heap.size + 1 + 1, 3, none⟩ = some (.int .u32 0) := (hb1.cell (p := ⟨w.heap.size + 1 + 1, 3, none⟩) (by first | omega | (simp; done) | (simp; omega))).trans (by go_simp); have kf1w_heap_size___1___1_3 : w1.frozen? ⟨w.heap.size + 1 + 1, 3, none⟩ = false := (hb1.frozen (p := ⟨w.heap.size + 1 + 1, 3, none⟩) (by first | omega | (simp; done) | (simp; omega))).trans (by go_simp)
  have hown1 := hown
  rcases hown.2 with ⟨rfl, rfl⟩ | ⟨g, cap, cur, rfl, hg, hgg, _⟩
  · clear hown hown1 hkeys
    go_wp2
    refine wp_loop_rounds 1 ?_
    rw [rounds_succ]
    go_wp2
    refine bodyPost_ret (v := .tuple #[.agg #[.int .u32 b0.toNat, .int .u32 b1.toNat, .int .u32 b2.toNat, .int .u32 b3.toNat], .int .i64 0]) (by simp [results, Try.results86, go_sem, *]) rfl ?_
    exact ⟨rfl, by (repeat' (first | (with_reducible exact Below.refl _ _) | (with_reducible assumption) | (with_reducible refine Below.alloc ?_ ?_ _) | (with_reducible refine Below.drew ?_) | (with_reducible refine below_drewN ?_ _) | (with_reducible refine Below.setCell ?_ ?_ _) | (with_reducible refine Below.trans ?_ (Below.mono (by assumption) ?_)) | go_size))⟩
  simp only [World.size_alloc] at hown1 hkeys hg
  have hgl := (Array.getElem?_eq_some_iff.1 hgg).1
  have HO := Lib.hid hown1
  have HK := Lib.hid hkeys
  have HB := Lib.hid hb1
  have hbw : Below w.heap.size w w1 := by (repeat' (first | (with_reducible exact Below.refl _ _) | (with_reducible assumption) | (with_reducible refine Below.alloc ?_ ?_ _) | (with_reducible refine Below.drew ?_) | (with_reducible refine below_drewN ?_ _) | (with_reducible refine Below.setCell ?_ ?_ _) | (with_reducible refine Below.trans ?_ (Below.mono (by assumption) ?_)) | go_size))
  clear hown hown1 hkeys hgg hb1
  go_wp2
  go_loopw [24] (fun i wr => ∃ (j : Nat) (x : Blk), j ≤ n ∧ i = .int .i64 j ∧ Hid (Ph.mix j ⟨b0, b1, b2, b3⟩ ⟨k0, k1⟩ = x) ∧
      Box4 wr w.heap.size (.int .u32 x.a.toNat) (.int .u32 x.b.toNat) (.int .u32 x.c.toNat) (.int .u32 x.d.toNat) ∧
      Box4 wr (w.heap.size + 1 + 1) (.int .u32 0) (.int .u32 0) (.int .u32 0) (.int .u32 0) ∧ Mid (w.heap.size + 1 + 1 + 1) w1 wr ∧ w.heap.size + 1 + 1 + 1 ≤ wr.heap.size ∧ Below w.heap.size w wr) (fun i _ => n - (intOf i).toNat)
  case atStart =>
    exact ⟨0, ⟨b0, b1, b2, b3⟩, by omega, rfl, Lib.hid rfl, ⟨by go_simp, by go_simp⟩, ⟨by go_simp, by go_simp⟩, Mid.refl _ _, hz1, hbw⟩
  case round =>
    obtain ⟨j, ⟨x0, x1, x2, x3⟩, hj, rfl, hx, ⟨⟨c0, c1, c2, c3⟩, ⟨f0, f1, f2, f3⟩⟩, ⟨⟨r0, r1, r2, r3⟩, ⟨s0, s1, s2, s3⟩⟩, hm, hz, hb⟩ := hrel
    by_cases hlt : j < n
    · obtain ⟨y, hy⟩ : ∃ y, Ph.keyAt j ⟨k0, k1⟩ = y := ⟨_, rfl⟩
      obtain ⟨hBl, hBh⟩ := HK.out j hlt
      have hBs := (Array.getElem?_eq_some_iff.1 hBh).1
      have hfl := fl_at B n j hlt
      have cF : wr.cell? ⟨g, j * 2, none⟩ = some (fnF (B j)) := Mid.cell hm (by simp; omega) hgl ((World.ownsRow.cellAt HO.out (j * 2) (by omega)).trans (by rw [Nat.mul_comm]; exact hfl.1))
      have cB : wr.cell? ⟨g, j * 2 + 1, none⟩ = some (fnB (B j)) := Mid.cell hm (by simp; omega) hgl ((World.ownsRow.cellAt HO.out (j * 2 + 1) (by omega)).trans (by rw [Nat.mul_comm]; exact hfl.2))
      rw [hy] at hBh
      obtain ⟨y0, y1⟩ := y
      have HY := Lib.hid hy
      have key0 : wr.cell? ⟨B j, 0, none⟩ = some (.int .u32 y0.toNat) := Mid.cell hm (by simp; omega) hBs (by rw [cell_of_row _ _ _ _ _ _ hBh]; rfl)
      have key1 : wr.cell? ⟨B j, 1, none⟩ = some (.int .u32 y1.toNat) := Mid.cell hm (by simp; omega) hBs (by rw [cell_of_row _ _ _ _ _ _ hBh]; rfl)
      have hms := hm.size
      unfold fnF at cF
      unfold fnB at cB
      clear hy hfl hBh
      go_wp2_with fail
      refine (forth_c _ _ _ _ _ _ (B j) _ (Mid.cell (lo := 0) (w := wr) (by (repeat' (first | (with_reducible exact Mid.refl _ _) | (with_reducible assumption) | (with_reducible refine Mid.alloc ?_ _) | (with_reducible refine Mid.drew ?_) | (with_reducible refine Mid.drewN ?_ _) | (with_reducible refine Mid.setCell ?_ ?_ _) | (with_reducible refine Mid.below ?_ (by assumption)) | go_size))) (Nat.zero_le _) (by simp; omega) key0) (Mid.cell (lo := 0) (w := wr) (by (repeat' (first | (with_reducible exact Mid.refl _ _) | (with_reducible assumption) | (with_reducible refine Mid.alloc ?_ _) | (with_reducible refine Mid.drew ?_) | (with_reducible refine Mid.drewN ?_ _) | (with_reducible refine Mid.setCell ?_ ?_ _) | (with_reducible refine Mid.below ?_ (by assumption)) | go_size))) (Nat.zero_le _) (by simp; omega) key1)).mono ?_
      rintro e w2 ⟨rfl, hb2⟩
      have hz2 := hb2.size; (try simp at hz2)
      have kc2w_heap_size_0 : w2.cell? ⟨w.heap.size, 0, none⟩ = some (.int .u32 x0.toNat) := (hb2.cell (p := ⟨w.heap.size, 0, none⟩) (by first | omega | (simp; done) | (simp; omega))).trans (by go_simp); have kf2w_heap_size_0 : w2.frozen? ⟨w.heap.size, 0, none⟩ = false := (hb2.frozen (p := ⟨w.heap.size, 0, none⟩) (by first | omega | (simp; done) | (simp; omega))).trans (by go_simp); have kc2w_heap_size_1 : w2.cell? ⟨w.heap.size, 1, none⟩ = some (.int .u32 x1.toNat) := (hb2.cell (p := ⟨w.heap.size, 1, none⟩) (by first | omega | (simp; done) | (simp; omega))).trans (by go_simp); have kf2w_heap_size_1 : w2.frozen? ⟨w.heap.size, 1, none⟩ = false := (hb2.frozen (p := ⟨w.heap.size, 1, none⟩) (by first | omega | (simp; done) | (simp; omega))).trans (by go_simp); have kc2w_heap_size_2 : w2.cell? ⟨w.heap.size, 2, none⟩ = some (.int .u32 x2.toNat) := (hb2.cell (p := ⟨w.heap.size, 2, none⟩) (by first | omega | (simp; done) | (simp; omega))).trans (by go_simp); have kf2w_heap_size_2 : w2.frozen? ⟨w.heap.size, 2, none⟩ = false := (hb2.frozen (p := ⟨w.heap.size, 2, none⟩) (by first | omega | (simp; done) | (simp; omega))).trans (by go_simp); have kc2w_heap_size_3 : w2.cell? ⟨w.heap.size, 3, none⟩ = some (.int .u32 x3.toNat) := (hb2.cell (p := ⟨w.heap.size, 3, none⟩) (by first | omega | (simp; done) | (simp; omega))).trans (by go_simp); have kf2w_heap_size_3 : w2.frozen? ⟨w.heap.size, 3, none⟩ = false := (hb2.frozen (p := ⟨w.heap.size, 3, none⟩) (by first | omega | (simp; done) | (simp; omega))).trans (by go_simp)
      have kc2w_heap_size___1___1_0 : w2.cell? ⟨w.heap.size + 1 + 1, 0, none⟩ = some (.int .u32 0) := (hb2.cell (p := ⟨w.heap.size + 1 + 1, 0, none⟩) (by first | omega | (simp; done) | (simp; omega))).trans (by go_simp); have kf2w_heap_size___1___1_0 : w2.frozen? ⟨w.heap.size + 1 + 1, 0, none⟩ = false := (hb2.frozen (p := ⟨w.heap.size + 1 + 1, 0, none⟩) (by first | omega | (simp; done) | (simp; omega))).trans (by go_simp); have kc2w_heap_size___1___1_1 : w2.cell? ⟨w.heap.size + 1 + 1, 1, none⟩ = some (.int .u32 0) := (hb2.cell (p := ⟨w.heap.size + 1 + 1, 1, none⟩) (by first | omega | (simp; done) | (simp; omega))).trans (by go_simp); have kf2w_heap_size___1___1_1 : w2.frozen? ⟨w.heap.size + 1 + 1, 1, none⟩ = false := (hb2.frozen (p := ⟨w.heap.size + 1 + 1, 1, none⟩) (by first | omega | (simp; done) | (simp; omega))).trans (by go_simp); have kc2w_heap_size___1___1_2 : w2.cell? ⟨w.heap.size + 1 + 1, 2, none⟩ = some (.int .u32 0) := (hb2.cell (p := ⟨w.heap.size + 1 + 1, 2, none⟩) (by first | omega | (simp; done) | (simp; omega))).trans (by go_simp); have kf2w_heap_size___1___1_2 : w2.frozen? ⟨w.heap.size + 1 + 1, 2, none⟩ = false := (hb2.frozen (p := ⟨w.heap.size + 1 + 1, 2, none⟩) (by first | omega | (simp; done) | (simp; omega))).trans (by go_simp); have kc2w_heap_size___1___1_3 : w2.cell? ⟨w.heap.size + 1 + 1, 3, none⟩ = some (.int .u32 0) := (hb2.cell (p := ⟨w.heap.size + 1 + 1, 3, none⟩) (by first | omega | (simp; done) | (simp; omega))).trans (by go_simp); have kf2w_heap_size___1___1_3 : w2.frozen? ⟨w.heap.size + 1 + 1, 3, none⟩ = false := (hb2.frozen (p := ⟨w.heap.size + 1 + 1, 3, none⟩) (by first | omega | (simp; done) | (simp; omega))).trans (by go_simp)
      go_wp2
      go_roundw
      case rel =>
        refine ⟨j + 1, Ph.round ⟨x0, x1, x2, x3⟩ ⟨y0, y1⟩, by omega, by go_num, Lib.hid ?_, ⟨by go_simp, by go_simp⟩, ⟨by go_simp, by go_simp⟩, ?_, ?_, ?_⟩
        · rw [Ph.mix_succ, hx.out, HY.out]
        · (repeat' (first | (with_reducible exact Mid.refl _ _) | (with_reducible assumption) | (with_reducible refine Mid.alloc ?_ _) | (with_reducible refine Mid.drew ?_) | (with_reducible refine Mid.drewN ?_ _) | (with_reducible refine Mid.setCell ?_ ?_ _) | (with_reducible refine Mid.below ?_ (by assumption)) | go_size))
        · simp; omega
        · (repeat' (first | (with_reducible exact Below.refl _ _) | (with_reducible assumption) | (with_reducible refine Below.alloc ?_ ?_ _) | (with_reducible refine Below.drew ?_) | (with_reducible refine below_drewN ?_ _) | (with_reducible refine Below.setCell ?_ ?_ _) | (with_reducible refine Below.trans ?_ (Below.mono (by assumption) ?_)) | go_size))
      case measure => simp [intOf]; omega
    · obtain rfl : j = n := by omega
      go_wp2
      refine bodyPost_ret (v := .tuple #[.agg #[.int .u32 x0.toNat, .int .u32 x1.toNat, .int .u32 x2.toNat, .int .u32 x3.toNat], .int .i64 0]) (by simp [results, Try.results86, go_sem, r0, r1, r2, r3]) rfl ?_
      exact ⟨by rw [hx.out], by (repeat' (first | (with_reducible exact Below.refl _ _) | (with_reducible assumption) | (with_reducible refine Below.alloc ?_ ?_ _) | (with_reducible refine Below.drew ?_) | (with_reducible refine below_drewN ?_ _) | (with_reducible refine Below.setCell ?_ ?_ _) | (with_reducible refine Below.trans ?_ (Below.mono (by assumption) ?_)) | go_size))⟩

set_option maxRecDepth 100000 in
theorem out_c (b0 b1 b2 b3 k0 k1 : BitVec 32) (w : World) :
    Calls Try.prog 65 #[.agg #[.int .u32 b0.toNat, .int .u32 b1.toNat, .int .u32 b2.toNat, .int .u32 b3.toNat], .agg #[.int .u32 k0.toNat, .int .u32 k1.toNat]] w fun e w' =>
      e = .returned (.agg #[.int .u32 (Ph.mix 10 ⟨b0, b1, b2, b3⟩ ⟨k0, k1⟩).a.toNat, .int .u32 (Ph.mix 10 ⟨b0, b1, b2, b3⟩ ⟨k0, k1⟩).b.toNat, .int .u32 (Ph.mix 10 ⟨b0, b1, b2, b3⟩ ⟨k0, k1⟩).c.toNat, .int .u32 (Ph.mix 10 ⟨b0, b1, b2, b3⟩ ⟨k0, k1⟩).d.toNat]) ∧ Below w.heap.size w w' := by
  go_enter Try.func65, Try.ntmps65
  go_wp2_with fail
  refine (mix_ok 10 (by omega) _ _ _ _ _ _ _).mono ?_
  rintro e w1 ⟨rfl, hb1⟩
  have hz1 := hb1.size; (try simp at hz1)
  have kc1w_heap_size___1___1_0 : w1.cell? ⟨w.heap.size + 1 + 1, 0, none⟩ = some (.int .u32 0) := (hb1.cell (p := ⟨w.heap.size + 1 + 1, 0, none⟩) (by first | omega | (simp; done) | (simp; omega))).trans (by go_simp); have kf1w_heap_size___1___1_0 : w1.frozen? ⟨w.heap.size + 1 + 1, 0, none⟩ = false := (hb1.frozen (p := ⟨w.heap.size + 1 + 1, 0, none⟩) (by first | omega | (simp; done) | (simp; omega))).trans (by go_simp); have kc1w_heap_size___1___1_1 : w1.cell? ⟨w.heap.size + 1 + 1, 1, none⟩ = some (.int .u32 0) := (hb1.cell (p := ⟨w.heap.size + 1 + 1, 1, none⟩) (by first | omega | (simp; done) | (simp; omega))).trans (by go_simp); have kf1w_heap_size___1___1_1 : w1.frozen? ⟨w.heap.size + 1 + 1, 1, none⟩ = false := (hb1.frozen (p := ⟨w.heap.size + 1 + 1, 1, none⟩) (by first | omega | (simp; done) | (simp; omega))).trans (by go_simp); have kc1w_heap_size___1___1_2 : w1.cell? ⟨w.heap.size + 1 + 1, 2, none⟩ = some (.int .u32 0) := (hb1.cell (p := ⟨w.heap.size + 1 + 1, 2, none⟩) (by first | omega | (simp; done) | (simp; omega))).trans (by go_simp); have kf1w_heap_size___1___1_2 : w1.frozen? ⟨w.heap.size + 1 + 1, 2, none⟩ = false := (hb1.frozen (p := ⟨w.heap.size + 1 + 1, 2, none⟩) (by first | omega | (simp; done) | (simp; omega))).trans (by go_simp); have kc1w_heap_size___1___1_3 : w1.cell? ⟨w.heap.size + 1 + 1, 3, none⟩ = some (.int .u32 0) := (hb1.cell (p := ⟨w.heap.size + 1 + 1, 3, none⟩) (by first | omega | (simp; done) | (simp; omega))).trans (by go_simp); have kf1w_heap_size___1___1_3 : w1.frozen? ⟨w.heap.size + 1 + 1, 3, none⟩ = false := (hb1.frozen (p := ⟨w.heap.size + 1 + 1, 3, none⟩) (by first | omega | (simp; done) | (simp; omega))).trans (by go_simp)
  go_wp2
  refine bodyPost_ret (v := .agg #[.int .u32 (Ph.mix 10 ⟨b0, b1, b2, b3⟩ ⟨k0, k1⟩).a.toNat, .int .u32 (Ph.mix 10 ⟨b0, b1, b2, b3⟩ ⟨k0, k1⟩).b.toNat, .int .u32 (Ph.mix 10 ⟨b0, b1, b2, b3⟩ ⟨k0, k1⟩).c.toNat, .int .u32 (Ph.mix 10 ⟨b0, b1, b2, b3⟩ ⟨k0, k1⟩).d.toNat]) (by simp [results, Try.results65, go_sem, *]) rfl ?_
  exact ⟨rfl, by (repeat' (first | (with_reducible exact Below.refl _ _) | (with_reducible assumption) | (with_reducible refine Below.alloc ?_ ?_ _) | (with_reducible refine Below.drew ?_) | (with_reducible refine below_drewN ?_ _) | (with_reducible refine Below.setCell ?_ ?_ _) | (with_reducible refine Below.trans ?_ (Below.mono (by assumption) ?_)) | go_size))⟩
end Go.Proofs.Ytmihcjbnieoodaa
