/- MixJumps, walked. -/
import Derived.Test.YtmihcjbnieoodaaMxBack
import Derived.Deep.RegionHeld3
namespace Go.Proofs.Ytmihcjbnieoodaa
open Go Go.RowKit

theorem Wd.lo_add (a b : BitVec 128) : Wd.lo (a + b) = Wd.lo a + Wd.lo b := by
  apply BitVec.eq_of_toNat_eq
  rw [← Wd.add_lo, BitVec.toNat_add]
theorem Mx.jump_add (s a b : BitVec 64) : Mx.jump (Mx.jump s a) b = Mx.jump s (a + b) := by
  simp only [Mx.jump, BitVec.add_mul, BitVec.add_assoc]
set_option maxRecDepth 100000 in
set_option maxHeartbeats 2000000 in
theorem mixJumps_walk (s : BitVec 64) (n m : BitVec 128) (w : World) : Calls Try.prog 6 #[.int .u64 s.toNat, .agg #[.int .u64 (Wd.hi n).toNat, .int .u64 (Wd.lo n).toNat], .agg #[.int .u64 (Wd.hi m).toNat, .int .u64 (Wd.lo m).toNat]] w fun e w' => e = .returned (.bool true) ∧ Below w.heap.size w w' := by
  obtain ⟨a, ha⟩ : ∃ x, Mx.jump s (Wd.lo n) = x := ⟨_, rfl⟩
  obtain ⟨b, hb⟩ : ∃ x, Mx.jump a (Wd.lo m) = x := ⟨_, rfl⟩
  obtain ⟨c, hc⟩ : ∃ x, n + m = x := ⟨_, rfl⟩
  obtain ⟨t, ht⟩ : ∃ x, Mx.step s = x := ⟨_, rfl⟩
  have D0 := Lib.hid (show ∀ w, Calls Try.prog 29 #[.agg #[.int .u64 (Wd.hi n).toNat, .int .u64 (Wd.lo n).toNat], .agg #[.int .u64 (Wd.hi m).toNat, .int .u64 (Wd.lo m).toNat]] w fun e w' => e = .returned (.tuple #[.agg #[.int .u64 (Wd.hi c).toNat, .int .u64 (Wd.lo c).toNat], .bool (Wd.over n m)]) ∧ Below w.heap.size w w' from by intro w; rw [← hc]; exact wadd_c n m w)
  have D1 := Lib.hid (show ∀ w, Calls Try.prog 24 #[.int .u64 s.toNat, .agg #[.int .u64 (Wd.hi n).toNat, .int .u64 (Wd.lo n).toNat]] w fun e w' => e = .returned (.int .u64 a.toNat) ∧ Below w.heap.size w w' from by intro w; rw [← ha]; exact mjump_c s n w)
  have D2 := Lib.hid (show ∀ w, Calls Try.prog 24 #[.int .u64 a.toNat, .agg #[.int .u64 (Wd.hi m).toNat, .int .u64 (Wd.lo m).toNat]] w fun e w' => e = .returned (.int .u64 b.toNat) ∧ Below w.heap.size w w' from by intro w; rw [← hb]; exact mjump_c a m w)
  have D3 := Lib.hid (show ∀ w, Calls Try.prog 24 #[.int .u64 s.toNat, .agg #[.int .u64 (Wd.hi c).toNat, .int .u64 (Wd.lo c).toNat]] w fun e w' => e = .returned (.int .u64 b.toNat) ∧ Below w.heap.size w w' from by intro w; refine Calls.val (mjump_c s c w) rfl ?_; rw [← hc, Wd.lo_add, ← Mx.jump_add, ha, hb])
  have D4 := Lib.hid (show ∀ w, Calls Try.prog 25 #[.int .u64 1] w fun e w' => e = .returned (.agg #[.int .u64 (Wd.hi (Wd.of 1#64)).toNat, .int .u64 (Wd.lo (Wd.of 1#64)).toNat]) ∧ Below w.heap.size w w' from by intro w; exact Calls.val (wofV_c 1#64 w) rfl rfl)
  have D5 := Lib.hid (show ∀ w, Calls Try.prog 24 #[.int .u64 s.toNat, .agg #[.int .u64 (Wd.hi (Wd.of 1#64)).toNat, .int .u64 (Wd.lo (Wd.of 1#64)).toNat]] w fun e w' => e = .returned (.int .u64 t.toNat) ∧ Below w.heap.size w w' from by intro w; refine Calls.val (mjump_of s 1#64 w) rfl ?_; rw [← ht, Mx.jump, BitVec.one_mul]; rfl)
  have D6 := Lib.hid (show ∀ w, Calls Try.prog 23 #[.int .u64 s.toNat] w fun e w' => e = .returned (.int .u64 t.toNat) ∧ w = w' from by intro w; rw [← ht]; exact mstep_c s w)
  have D7 := Lib.hid (show ∀ w, Calls Try.prog 24 #[.int .u64 s.toNat, .agg #[.int .u64 0, .int .u64 0]] w fun e w' => e = .returned (.int .u64 s.toNat) ∧ Below w.heap.size w w' from by intro w; refine Calls.val (mjump_c s 0#128 w) rfl ?_; rw [show Wd.lo 0#128 = 0#64 from by decide, Mx.jump, BitVec.zero_mul, BitVec.add_zero])
  obtain ⟨d, hd⟩ : ∃ x, Wd.of (Wd.lo n) = x := ⟨_, rfl⟩
  have D8 := Lib.hid (show ∀ w, Calls Try.prog 25 #[.int .u64 (Wd.lo n).toNat] w fun e w' => e = .returned (.agg #[.int .u64 (Wd.hi d).toNat, .int .u64 (Wd.lo d).toNat]) ∧ Below w.heap.size w w' from by intro w; rw [← hd]; exact wofV_c (Wd.lo n) w)
  have D9 := Lib.hid (show ∀ w, Calls Try.prog 24 #[.int .u64 s.toNat, .agg #[.int .u64 (Wd.hi d).toNat, .int .u64 (Wd.lo d).toNat]] w fun e w' => e = .returned (.int .u64 a.toNat) ∧ Below w.heap.size w w' from by intro w; rw [← hd]; refine Calls.val (mjump_of s (Wd.lo n) w) rfl ?_; rw [ha])
  clear ha hb hc ht hd
  go_enter Try.func6, Try.ntmps6
  go_wp2_with fail
  refine (awake06_c _).mono ?_
  rintro e w1 ⟨rfl, hb1⟩
  have hz1 := hb1.size; (try simp at hz1)
  have kc1w_heap_size_0 : w1.cell? ⟨w.heap.size, 0, none⟩ = some (.int .u64 (Wd.hi n).toNat) := (hb1.cell (p := ⟨w.heap.size, 0, none⟩) (by first | omega | (simp; done) | (simp; omega))).trans (by go_simp); have kf1w_heap_size_0 : w1.frozen? ⟨w.heap.size, 0, none⟩ = false := (hb1.frozen (p := ⟨w.heap.size, 0, none⟩) (by first | omega | (simp; done) | (simp; omega))).trans (by go_simp); have kc1w_heap_size_1 : w1.cell? ⟨w.heap.size, 1, none⟩ = some (.int .u64 (Wd.lo n).toNat) := (hb1.cell (p := ⟨w.heap.size, 1, none⟩) (by first | omega | (simp; done) | (simp; omega))).trans (by go_simp); have kf1w_heap_size_1 : w1.frozen? ⟨w.heap.size, 1, none⟩ = false := (hb1.frozen (p := ⟨w.heap.size, 1, none⟩) (by first | omega | (simp; done) | (simp; omega))).trans (by go_simp)
  have kc1w_heap_size___1_0 : w1.cell? ⟨w.heap.size + 1, 0, none⟩ = some (.int .u64 (Wd.hi m).toNat) := (hb1.cell (p := ⟨w.heap.size + 1, 0, none⟩) (by first | omega | (simp; done) | (simp; omega))).trans (by go_simp); have kf1w_heap_size___1_0 : w1.frozen? ⟨w.heap.size + 1, 0, none⟩ = false := (hb1.frozen (p := ⟨w.heap.size + 1, 0, none⟩) (by first | omega | (simp; done) | (simp; omega))).trans (by go_simp); have kc1w_heap_size___1_1 : w1.cell? ⟨w.heap.size + 1, 1, none⟩ = some (.int .u64 (Wd.lo m).toNat) := (hb1.cell (p := ⟨w.heap.size + 1, 1, none⟩) (by first | omega | (simp; done) | (simp; omega))).trans (by go_simp); have kf1w_heap_size___1_1 : w1.frozen? ⟨w.heap.size + 1, 1, none⟩ = false := (hb1.frozen (p := ⟨w.heap.size + 1, 1, none⟩) (by first | omega | (simp; done) | (simp; omega))).trans (by go_simp)
  go_wp2_with fail
  refine (D0.out _).mono ?_
  rintro e w2 ⟨rfl, hb2⟩
  have hz2 := hb2.size; (try simp at hz2)
  have kc2w_heap_size_0 : w2.cell? ⟨w.heap.size, 0, none⟩ = some (.int .u64 (Wd.hi n).toNat) := (hb2.cell (p := ⟨w.heap.size, 0, none⟩) (by first | omega | (simp; done) | (simp; omega))).trans (by go_simp); have kf2w_heap_size_0 : w2.frozen? ⟨w.heap.size, 0, none⟩ = false := (hb2.frozen (p := ⟨w.heap.size, 0, none⟩) (by first | omega | (simp; done) | (simp; omega))).trans (by go_simp); have kc2w_heap_size_1 : w2.cell? ⟨w.heap.size, 1, none⟩ = some (.int .u64 (Wd.lo n).toNat) := (hb2.cell (p := ⟨w.heap.size, 1, none⟩) (by first | omega | (simp; done) | (simp; omega))).trans (by go_simp); have kf2w_heap_size_1 : w2.frozen? ⟨w.heap.size, 1, none⟩ = false := (hb2.frozen (p := ⟨w.heap.size, 1, none⟩) (by first | omega | (simp; done) | (simp; omega))).trans (by go_simp)
  have kc2w_heap_size___1_0 : w2.cell? ⟨w.heap.size + 1, 0, none⟩ = some (.int .u64 (Wd.hi m).toNat) := (hb2.cell (p := ⟨w.heap.size + 1, 0, none⟩) (by first | omega | (simp; done) | (simp; omega))).trans (by go_simp); have kf2w_heap_size___1_0 : w2.frozen? ⟨w.heap.size + 1, 0, none⟩ = false := (hb2.frozen (p := ⟨w.heap.size + 1, 0, none⟩) (by first | omega | (simp; done) | (simp; omega))).trans (by go_simp); have kc2w_heap_size___1_1 : w2.cell? ⟨w.heap.size + 1, 1, none⟩ = some (.int .u64 (Wd.lo m).toNat) := (hb2.cell (p := ⟨w.heap.size + 1, 1, none⟩) (by first | omega | (simp; done) | (simp; omega))).trans (by go_simp); have kf2w_heap_size___1_1 : w2.frozen? ⟨w.heap.size + 1, 1, none⟩ = false := (hb2.frozen (p := ⟨w.heap.size + 1, 1, none⟩) (by first | omega | (simp; done) | (simp; omega))).trans (by go_simp)
  go_wp2_with fail
  go_region_held3 (fun w' => (w'.cell? ⟨w.heap.size, 0, none⟩ = some (.int .u64 (Wd.hi n).toNat) ∧ w'.cell? ⟨w.heap.size, 1, none⟩ = some (.int .u64 (Wd.lo n).toNat)) ∧ (w'.cell? ⟨w.heap.size + 1, 0, none⟩ = some (.int .u64 (Wd.hi m).toNat) ∧ w'.cell? ⟨w.heap.size + 1, 1, none⟩ = some (.int .u64 (Wd.lo m).toNat)) ∧ (w'.cell? ⟨w2.heap.size, 0, none⟩ = some (.int .u64 (Wd.hi c).toNat) ∧ w'.cell? ⟨w2.heap.size, 1, none⟩ = some (.int .u64 (Wd.lo c).toNat)))
    (go_keep)
    (first
      | (go_at_call_of 24 (#[.int .u64 s.toNat, .agg #[.int .u64 (Wd.hi n).toNat, .int .u64 (Wd.lo n).toNat]] : Array Value); refine (D1.out _).mono ?_; rintro e w' ⟨rfl, hb⟩; have hk := keep_cell hb; have hz := hb.size; (try simp at hz))
      | (go_at_call_of 24 (#[.int .u64 a.toNat, .agg #[.int .u64 (Wd.hi m).toNat, .int .u64 (Wd.lo m).toNat]] : Array Value); refine (D2.out _).mono ?_; rintro e w' ⟨rfl, hb⟩; have hk := keep_cell hb; have hz := hb.size; (try simp at hz))
      | (go_at_call_of 24 (#[.int .u64 s.toNat, .agg #[.int .u64 (Wd.hi c).toNat, .int .u64 (Wd.lo c).toNat]] : Array Value); refine (D3.out _).mono ?_; rintro e w' ⟨rfl, hb⟩; have hk := keep_cell hb; have hz := hb.size; (try simp at hz))
      | (go_at_call_of 25 (#[.int .u64 1] : Array Value); refine (D4.out _).mono ?_; rintro e w' ⟨rfl, hb⟩; have hk := keep_cell hb; have hz := hb.size; (try simp at hz))
      | (go_at_call_of 24 (#[.int .u64 s.toNat, .agg #[.int .u64 (Wd.hi (Wd.of 1#64)).toNat, .int .u64 (Wd.lo (Wd.of 1#64)).toNat]] : Array Value); refine (D5.out _).mono ?_; rintro e w' ⟨rfl, hb⟩; have hk := keep_cell hb; have hz := hb.size; (try simp at hz))
      | (go_at_call_of 23 (#[.int .u64 s.toNat] : Array Value); refine (D6.out _).mono ?_; rintro e w' ⟨rfl, rfl⟩)
      | (go_at_call_of 24 (#[.int .u64 s.toNat, .agg #[.int .u64 0, .int .u64 0]] : Array Value); refine (D7.out _).mono ?_; rintro e w' ⟨rfl, hb⟩; have hk := keep_cell hb; have hz := hb.size; (try simp at hz))
      | (go_at_call_of 25 (#[.int .u64 (Wd.lo n).toNat] : Array Value); refine (D8.out _).mono ?_; rintro e w' ⟨rfl, hb⟩; have hk := keep_cell hb; have hz := hb.size; (try simp at hz))
      | (go_at_call_of 24 (#[.int .u64 s.toNat, .agg #[.int .u64 (Wd.hi d).toNat, .int .u64 (Wd.lo d).toNat]] : Array Value); refine (D9.out _).mono ?_; rintro e w' ⟨rfl, hb⟩; have hk := keep_cell hb; have hz := hb.size; (try simp at hz)))
  go_wp2
  go_ret
  exact ⟨rfl, by (repeat' (first | (with_reducible exact Below.refl _ _) | (with_reducible assumption) | (with_reducible refine Below.alloc ?_ ?_ _) | (with_reducible refine Below.drew ?_) | (with_reducible refine below_drewN ?_ _) | (with_reducible refine Below.setCell ?_ ?_ _) | (with_reducible refine Below.trans ?_ (Below.mono (by assumption) ?_)) | go_size))⟩
end Go.Proofs.Ytmihcjbnieoodaa
