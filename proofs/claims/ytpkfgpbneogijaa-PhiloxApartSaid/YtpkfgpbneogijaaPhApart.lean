/- PhiloxApart, walked. -/
import Derived.Test.YtpkfgpbneogijaaPhE
import Derived.Deep.RegionHeld3
namespace Go.Proofs.Ytpkfgpbneogijaa
open Go Go.RowKit

theorem eq4_blk (x y : Blk) : eq4 x.a.toNat x.b.toNat x.c.toNat x.d.toNat y.a.toNat y.b.toNat y.c.toNat y.d.toNat = decide (x = y) := by
  unfold eq4
  congr 1
  apply propext
  constructor
  · rintro ⟨h0, h1, h2, h3⟩
    exact Ph.ext (BitVec.eq_of_toNat_eq (by omega)) (BitVec.eq_of_toNat_eq (by omega)) (BitVec.eq_of_toNat_eq (by omega)) (BitVec.eq_of_toNat_eq (by omega))
  · rintro rfl; exact ⟨rfl, rfl, rfl, rfl⟩

set_option maxRecDepth 100000 in
set_option maxHeartbeats 800000 in
theorem philoxApart_walk (a0 a1 a2 a3 b0 b1 b2 b3 k0 k1 : BitVec 32) (w : World) :
    Calls Try.prog 5 #[.agg #[.int .u32 a0.toNat, .int .u32 a1.toNat, .int .u32 a2.toNat, .int .u32 a3.toNat], .agg #[.int .u32 b0.toNat, .int .u32 b1.toNat, .int .u32 b2.toNat, .int .u32 b3.toNat], .agg #[.int .u32 k0.toNat, .int .u32 k1.toNat]] w fun e w' => e = .returned (.bool true) ∧ Below w.heap.size w w' := by
  obtain ⟨x, hx⟩ : ∃ x, Ph.mix 10 ⟨a0, a1, a2, a3⟩ ⟨k0, k1⟩ = x := ⟨_, rfl⟩
  obtain ⟨y, hy⟩ : ∃ y, Ph.mix 10 ⟨b0, b1, b2, b3⟩ ⟨k0, k1⟩ = y := ⟨_, rfl⟩
  obtain ⟨z, hz⟩ : ∃ z, Ph.round ⟨a0, a1, a2, a3⟩ ⟨k0, k1⟩ = z := ⟨_, rfl⟩
  obtain ⟨v, hv⟩ : ∃ v, Ph.round ⟨b0, b1, b2, b3⟩ ⟨k0, k1⟩ = v := ⟨_, rfl⟩
  have E1 : (eq4 x.a.toNat x.b.toNat x.c.toNat x.d.toNat y.a.toNat y.b.toNat y.c.toNat y.d.toNat == eq4 a0.toNat a1.toNat a2.toNat a3.toNat b0.toNat b1.toNat b2.toNat b3.toNat) = true := by
    rw [eq4_blk, show eq4 a0.toNat a1.toNat a2.toNat a3.toNat b0.toNat b1.toNat b2.toNat b3.toNat = decide ((⟨a0, a1, a2, a3⟩ : Blk) = ⟨b0, b1, b2, b3⟩) from eq4_blk ⟨a0, a1, a2, a3⟩ ⟨b0, b1, b2, b3⟩, ← hx, ← hy]
    simp only [Ph.mix_inj]; simp
  have E2 : (eq4 z.a.toNat z.b.toNat z.c.toNat z.d.toNat v.a.toNat v.b.toNat v.c.toNat v.d.toNat == eq4 a0.toNat a1.toNat a2.toNat a3.toNat b0.toNat b1.toNat b2.toNat b3.toNat) = true := by
    rw [eq4_blk, show eq4 a0.toNat a1.toNat a2.toNat a3.toNat b0.toNat b1.toNat b2.toNat b3.toNat = decide ((⟨a0, a1, a2, a3⟩ : Blk) = ⟨b0, b1, b2, b3⟩) from eq4_blk ⟨a0, a1, a2, a3⟩ ⟨b0, b1, b2, b3⟩, ← hz, ← hv]
    simp only [Ph.round_inj]; simp
  have X := Lib.hid hx
  have Y := Lib.hid hy
  have Z := Lib.hid hz
  have V := Lib.hid hv
  have C1 : ∀ w, Calls Try.prog 19 #[.agg #[.int .u32 a0.toNat, .int .u32 a1.toNat, .int .u32 a2.toNat, .int .u32 a3.toNat], .agg #[.int .u32 k0.toNat, .int .u32 k1.toNat]] w fun e w' => e = .returned (.agg #[.int .u32 (x).a.toNat, .int .u32 (x).b.toNat, .int .u32 (x).c.toNat, .int .u32 (x).d.toNat]) ∧ Below w.heap.size w w' := by
    intro w; rw [← hx]; exact out_c _ _ _ _ _ _ w
  have C2 : ∀ w, Calls Try.prog 19 #[.agg #[.int .u32 b0.toNat, .int .u32 b1.toNat, .int .u32 b2.toNat, .int .u32 b3.toNat], .agg #[.int .u32 k0.toNat, .int .u32 k1.toNat]] w fun e w' => e = .returned (.agg #[.int .u32 (y).a.toNat, .int .u32 (y).b.toNat, .int .u32 (y).c.toNat, .int .u32 (y).d.toNat]) ∧ Below w.heap.size w w' := by
    intro w; rw [← hy]; exact out_c _ _ _ _ _ _ w
  have C3 : ∀ w, Calls Try.prog 15 #[.agg #[.int .u32 a0.toNat, .int .u32 a1.toNat, .int .u32 a2.toNat, .int .u32 a3.toNat], .agg #[.int .u32 k0.toNat, .int .u32 k1.toNat]] w fun e w' => e = .returned (.agg #[.int .u32 (z).a.toNat, .int .u32 (z).b.toNat, .int .u32 (z).c.toNat, .int .u32 (z).d.toNat]) ∧ Below w.heap.size w w' := by
    intro w; rw [← hz]; exact round_c _ _ _ _ _ _ w
  have C4 : ∀ w, Calls Try.prog 15 #[.agg #[.int .u32 b0.toNat, .int .u32 b1.toNat, .int .u32 b2.toNat, .int .u32 b3.toNat], .agg #[.int .u32 k0.toNat, .int .u32 k1.toNat]] w fun e w' => e = .returned (.agg #[.int .u32 (v).a.toNat, .int .u32 (v).b.toNat, .int .u32 (v).c.toNat, .int .u32 (v).d.toNat]) ∧ Below w.heap.size w w' := by
    intro w; rw [← hv]; exact round_c _ _ _ _ _ _ w
  have D1 := Lib.hid C1
  have D2 := Lib.hid C2
  have D3 := Lib.hid C3
  have D4 := Lib.hid C4
  clear hx hy hz hv C1 C2 C3 C4
  go_enter Try.func5, Try.ntmps5
  go_wp2_with fail
  refine (awake11_c _).mono ?_
  rintro e w1 ⟨rfl, hb1⟩
  have hz1 := hb1.size; (try simp at hz1)
  have kc1w_heap_size_0 : w1.cell? ⟨w.heap.size, 0, none⟩ = some (.int .u32 a0.toNat) := (hb1.cell (p := ⟨w.heap.size, 0, none⟩) (by first | omega | (simp; done) | (simp; omega))).trans (by go_simp); have kf1w_heap_size_0 : w1.frozen? ⟨w.heap.size, 0, none⟩ = false := (hb1.frozen (p := ⟨w.heap.size, 0, none⟩) (by first | omega | (simp; done) | (simp; omega))).trans (by go_simp); have kc1w_heap_size_1 : w1.cell? ⟨w.heap.size, 1, none⟩ = some (.int .u32 a1.toNat) := (hb1.cell (p := ⟨w.heap.size, 1, none⟩) (by first | omega | (simp; done) | (simp; omega))).trans (by go_simp); have kf1w_heap_size_1 : w1.frozen? ⟨w.heap.size, 1, none⟩ = false := (hb1.frozen (p := ⟨w.heap.size, 1, none⟩) (by first | omega | (simp; done) | (simp; omega))).trans (by go_simp); have kc1w_heap_size_2 : w1.cell? ⟨w.heap.size, 2, none⟩ = some (.int .u32 a2.toNat) := (hb1.cell (p := ⟨w.heap.size, 2, none⟩) (by first | omega | (simp; done) | (simp; omega))).trans (by go_simp); have kf1w_heap_size_2 : w1.frozen? ⟨w.heap.size, 2, none⟩ = false := (hb1.frozen (p := ⟨w.heap.size, 2, none⟩) (by first | omega | (simp; done) | (simp; omega))).trans (by go_simp); have kc1w_heap_size_3 : w1.cell? ⟨w.heap.size, 3, none⟩ = some (.int .u32 a3.toNat) := (hb1.cell (p := ⟨w.heap.size, 3, none⟩) (by first | omega | (simp; done) | (simp; omega))).trans (by go_simp); have kf1w_heap_size_3 : w1.frozen? ⟨w.heap.size, 3, none⟩ = false := (hb1.frozen (p := ⟨w.heap.size, 3, none⟩) (by first | omega | (simp; done) | (simp; omega))).trans (by go_simp)
  have kc1w_heap_size___1_0 : w1.cell? ⟨w.heap.size + 1, 0, none⟩ = some (.int .u32 b0.toNat) := (hb1.cell (p := ⟨w.heap.size + 1, 0, none⟩) (by first | omega | (simp; done) | (simp; omega))).trans (by go_simp); have kf1w_heap_size___1_0 : w1.frozen? ⟨w.heap.size + 1, 0, none⟩ = false := (hb1.frozen (p := ⟨w.heap.size + 1, 0, none⟩) (by first | omega | (simp; done) | (simp; omega))).trans (by go_simp); have kc1w_heap_size___1_1 : w1.cell? ⟨w.heap.size + 1, 1, none⟩ = some (.int .u32 b1.toNat) := (hb1.cell (p := ⟨w.heap.size + 1, 1, none⟩) (by first | omega | (simp; done) | (simp; omega))).trans (by go_simp); have kf1w_heap_size___1_1 : w1.frozen? ⟨w.heap.size + 1, 1, none⟩ = false := (hb1.frozen (p := ⟨w.heap.size + 1, 1, none⟩) (by first | omega | (simp; done) | (simp; omega))).trans (by go_simp); have kc1w_heap_size___1_2 : w1.cell? ⟨w.heap.size + 1, 2, none⟩ = some (.int .u32 b2.toNat) := (hb1.cell (p := ⟨w.heap.size + 1, 2, none⟩) (by first | omega | (simp; done) | (simp; omega))).trans (by go_simp); have kf1w_heap_size___1_2 : w1.frozen? ⟨w.heap.size + 1, 2, none⟩ = false := (hb1.frozen (p := ⟨w.heap.size + 1, 2, none⟩) (by first | omega | (simp; done) | (simp; omega))).trans (by go_simp); have kc1w_heap_size___1_3 : w1.cell? ⟨w.heap.size + 1, 3, none⟩ = some (.int .u32 b3.toNat) := (hb1.cell (p := ⟨w.heap.size + 1, 3, none⟩) (by first | omega | (simp; done) | (simp; omega))).trans (by go_simp); have kf1w_heap_size___1_3 : w1.frozen? ⟨w.heap.size + 1, 3, none⟩ = false := (hb1.frozen (p := ⟨w.heap.size + 1, 3, none⟩) (by first | omega | (simp; done) | (simp; omega))).trans (by go_simp)
  have kc1w_heap_size___1___1_0 : w1.cell? ⟨w.heap.size + 1 + 1, 0, none⟩ = some (.int .u32 k0.toNat) := (hb1.cell (p := ⟨w.heap.size + 1 + 1, 0, none⟩) (by first | omega | (simp; done) | (simp; omega))).trans (by go_simp); have kf1w_heap_size___1___1_0 : w1.frozen? ⟨w.heap.size + 1 + 1, 0, none⟩ = false := (hb1.frozen (p := ⟨w.heap.size + 1 + 1, 0, none⟩) (by first | omega | (simp; done) | (simp; omega))).trans (by go_simp); have kc1w_heap_size___1___1_1 : w1.cell? ⟨w.heap.size + 1 + 1, 1, none⟩ = some (.int .u32 k1.toNat) := (hb1.cell (p := ⟨w.heap.size + 1 + 1, 1, none⟩) (by first | omega | (simp; done) | (simp; omega))).trans (by go_simp); have kf1w_heap_size___1___1_1 : w1.frozen? ⟨w.heap.size + 1 + 1, 1, none⟩ = false := (hb1.frozen (p := ⟨w.heap.size + 1 + 1, 1, none⟩) (by first | omega | (simp; done) | (simp; omega))).trans (by go_simp)
  go_wp2_with fail
  have hbw : Below w.heap.size w w1 := by (repeat' (first | (with_reducible exact Below.refl _ _) | (with_reducible assumption) | (with_reducible refine Below.alloc ?_ ?_ _) | (with_reducible refine Below.drew ?_) | (with_reducible refine below_drewN ?_ _) | (with_reducible refine Below.setCell ?_ ?_ _) | (with_reducible refine Below.trans ?_ (Below.mono (by assumption) ?_)) | go_size))
  clear hb1
  go_region_held3 (fun w' => (w'.cell? ⟨w.heap.size, 0, none⟩ = some (.int .u32 a0.toNat) ∧ w'.cell? ⟨w.heap.size, 1, none⟩ = some (.int .u32 a1.toNat) ∧ w'.cell? ⟨w.heap.size, 2, none⟩ = some (.int .u32 a2.toNat) ∧ w'.cell? ⟨w.heap.size, 3, none⟩ = some (.int .u32 a3.toNat)) ∧
      (w'.cell? ⟨w.heap.size + 1, 0, none⟩ = some (.int .u32 b0.toNat) ∧ w'.cell? ⟨w.heap.size + 1, 1, none⟩ = some (.int .u32 b1.toNat) ∧ w'.cell? ⟨w.heap.size + 1, 2, none⟩ = some (.int .u32 b2.toNat) ∧ w'.cell? ⟨w.heap.size + 1, 3, none⟩ = some (.int .u32 b3.toNat)) ∧
      (w'.cell? ⟨w.heap.size + 1 + 1, 0, none⟩ = some (.int .u32 k0.toNat) ∧ w'.cell? ⟨w.heap.size + 1 + 1, 1, none⟩ = some (.int .u32 k1.toNat)))
    (go_keep)
    (first
      | (go_at_call_of 19 (Value.int IntKind.u32 ((BitVec.toNat a0 : Nat) : Int)); refine (D1.out _).mono ?_; rintro e w' ⟨rfl, hb⟩; have hk := keep_cell hb; have hz := hb.size; (try simp at hz))
      | (go_at_call_of 19 (Value.int IntKind.u32 ((BitVec.toNat b0 : Nat) : Int)); refine (D2.out _).mono ?_; rintro e w' ⟨rfl, hb⟩; have hk := keep_cell hb; have hz := hb.size; (try simp at hz))
      | (go_at_call_of 15 (Value.int IntKind.u32 ((BitVec.toNat a0 : Nat) : Int)); refine (D3.out _).mono ?_; rintro e w' ⟨rfl, hb⟩; have hk := keep_cell hb; have hz := hb.size; (try simp at hz))
      | (go_at_call_of 15 (Value.int IntKind.u32 ((BitVec.toNat b0 : Nat) : Int)); refine (D4.out _).mono ?_; rintro e w' ⟨rfl, hb⟩; have hk := keep_cell hb; have hz := hb.size; (try simp at hz)))
  all_goals go_wp2
  all_goals go_ret
  all_goals exact ⟨rfl, by (repeat' (first | (with_reducible exact Below.refl _ _) | (with_reducible assumption) | (with_reducible refine Below.alloc ?_ ?_ _) | (with_reducible refine Below.drew ?_) | (with_reducible refine below_drewN ?_ _) | (with_reducible refine Below.setCell ?_ ?_ _) | (with_reducible refine Below.trans ?_ (Below.mono (by assumption) ?_)) | go_size))⟩
end Go.Proofs.Ytpkfgpbneogijaa
