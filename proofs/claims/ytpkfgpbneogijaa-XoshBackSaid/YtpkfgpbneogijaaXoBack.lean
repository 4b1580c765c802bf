/- XoshBack, walked. -/
import Derived.Test.YtpkfgpbneogijaaXoE
namespace Go.Proofs.Ytpkfgpbneogijaa
open Go Go.RowKit

theorem eq4_st_zero (s : St) : eq4 s.a.toNat s.b.toNat s.c.toNat s.d.toNat 0 0 0 0 = decide (s = Xo.zero) := eq4_zero s

set_option maxRecDepth 100000 in
set_option maxHeartbeats 2000000 in
theorem xoshBack_walk (s0 s1 s2 s3 : BitVec 64) (w : World) :
    Calls Try.prog 8 #[.agg #[.int .u64 s0.toNat, .int .u64 s1.toNat, .int .u64 s2.toNat, .int .u64 s3.toNat]] w fun e w' => e = .returned (.bool true) ∧ Below w.heap.size w w' := by
  obtain ⟨y, hy⟩ : ∃ y, Xo.step ⟨s0, s1, s2, s3⟩ = y := ⟨_, rfl⟩
  obtain ⟨z, hz⟩ : ∃ z, Xo.back ⟨s0, s1, s2, s3⟩ = z := ⟨_, rfl⟩
  obtain ⟨rb, hr⟩ : ∃ rb, (!(eq4 s0.toNat s1.toNat s2.toNat s3.toNat 0 0 0 0)) = rb := ⟨_, rfl⟩
  have hr' : (!(decide ((⟨s0, s1, s2, s3⟩ : St) = Xo.zero))) = rb := by rw [← hr]; exact congrArg _ (eq4_zero ⟨s0, s1, s2, s3⟩).symm
  have E := eq4_self s0.toNat s1.toNat s2.toNat s3.toNat
  obtain ⟨y0, y1, y2, y3⟩ := y
  obtain ⟨z0, z1, z2, z3⟩ := z
  have C1 : ∀ w, Calls Try.prog 27 #[.agg #[.int .u64 s0.toNat, .int .u64 s1.toNat, .int .u64 s2.toNat, .int .u64 s3.toNat]] w fun e w' => e = .returned (.agg #[.int .u64 y0.toNat, .int .u64 y1.toNat, .int .u64 y2.toNat, .int .u64 y3.toNat]) ∧ Below w.heap.size w w' := by
    intro w; have h := xstep_c s0 s1 s2 s3 w; rw [hy] at h; exact h
  have C2 : ∀ w, Calls Try.prog 34 #[.agg #[.int .u64 y0.toNat, .int .u64 y1.toNat, .int .u64 y2.toNat, .int .u64 y3.toNat]] w fun e w' => e = .returned (.agg #[.int .u64 s0.toNat, .int .u64 s1.toNat, .int .u64 s2.toNat, .int .u64 s3.toNat]) ∧ Below w.heap.size w w' := by
    intro w; have h := xback_c y0 y1 y2 y3 w; rw [← hy, Xo.back_step] at h; exact h
  have C3 : ∀ w, Calls Try.prog 34 #[.agg #[.int .u64 s0.toNat, .int .u64 s1.toNat, .int .u64 s2.toNat, .int .u64 s3.toNat]] w fun e w' => e = .returned (.agg #[.int .u64 z0.toNat, .int .u64 z1.toNat, .int .u64 z2.toNat, .int .u64 z3.toNat]) ∧ Below w.heap.size w w' := by
    intro w; have h := xback_c s0 s1 s2 s3 w; rw [hz] at h; exact h
  have C4 : ∀ w, Calls Try.prog 27 #[.agg #[.int .u64 z0.toNat, .int .u64 z1.toNat, .int .u64 z2.toNat, .int .u64 z3.toNat]] w fun e w' => e = .returned (.agg #[.int .u64 s0.toNat, .int .u64 s1.toNat, .int .u64 s2.toNat, .int .u64 s3.toNat]) ∧ Below w.heap.size w w' := by
    intro w; have h := xstep_c z0 z1 z2 z3 w; rw [← hz, Xo.step_back] at h; exact h
  have C5 : ∀ w, Calls Try.prog 29 #[.agg #[.int .u64 s0.toNat, .int .u64 s1.toNat, .int .u64 s2.toNat, .int .u64 s3.toNat]] w fun e w' => e = .returned (.bool rb) ∧ Below w.heap.size w w' := by
    intro w; have h := xright_c s0 s1 s2 s3 w; rw [hr] at h; exact h
  have C6 : ∀ w, Calls Try.prog 29 #[.agg #[.int .u64 y0.toNat, .int .u64 y1.toNat, .int .u64 y2.toNat, .int .u64 y3.toNat]] w fun e w' => e = .returned (.bool rb) ∧ Below w.heap.size w w' := by
    intro w; have h := xright_c y0 y1 y2 y3 w
    have e : (!(eq4 y0.toNat y1.toNat y2.toNat y3.toNat 0 0 0 0)) = rb := by
      rw [← hr']; refine congrArg _ ((eq4_zero ⟨y0, y1, y2, y3⟩).trans ?_); rw [← hy]; simp only [Xo.step_ne]
    rw [e] at h; exact h
  have C7 : ∀ w, Calls Try.prog 29 #[.agg #[.int .u64 z0.toNat, .int .u64 z1.toNat, .int .u64 z2.toNat, .int .u64 z3.toNat]] w fun e w' => e = .returned (.bool rb) ∧ Below w.heap.size w w' := by
    intro w; have h := xright_c z0 z1 z2 z3 w
    have e : (!(eq4 z0.toNat z1.toNat z2.toNat z3.toNat 0 0 0 0)) = rb := by
      rw [← hr']; refine congrArg _ ((eq4_zero ⟨z0, z1, z2, z3⟩).trans ?_); rw [← hz]; simp only [Xo.back_ne]
    rw [e] at h; exact h
  have D1 := Lib.hid C1
  have D2 := Lib.hid C2
  have D3 := Lib.hid C3
  have D4 := Lib.hid C4
  have D5 := Lib.hid C5
  have D6 := Lib.hid C6
  have D7 := Lib.hid C7
  clear hy hz hr hr' C1 C2 C3 C4 C5 C6 C7
  go_enter Try.func8, Try.ntmps8
  go_wp2_with fail
  refine (awake07_c _).mono ?_
  rintro e w1 ⟨rfl, hb1⟩
  have hz1 := hb1.size; (try simp at hz1)
  have kc1w_heap_size_0 : w1.cell? ⟨w.heap.size, 0, none⟩ = some (.int .u64 s0.toNat) := (hb1.cell (p := ⟨w.heap.size, 0, none⟩) (by first | omega | (simp; done) | (simp; omega))).trans (by go_simp); have kf1w_heap_size_0 : w1.frozen? ⟨w.heap.size, 0, none⟩ = false := (hb1.frozen (p := ⟨w.heap.size, 0, none⟩) (by first | omega | (simp; done) | (simp; omega))).trans (by go_simp); have kc1w_heap_size_1 : w1.cell? ⟨w.heap.size, 1, none⟩ = some (.int .u64 s1.toNat) := (hb1.cell (p := ⟨w.heap.size, 1, none⟩) (by first | omega | (simp; done) | (simp; omega))).trans (by go_simp); have kf1w_heap_size_1 : w1.frozen? ⟨w.heap.size, 1, none⟩ = false := (hb1.frozen (p := ⟨w.heap.size, 1, none⟩) (by first | omega | (simp; done) | (simp; omega))).trans (by go_simp); have kc1w_heap_size_2 : w1.cell? ⟨w.heap.size, 2, none⟩ = some (.int .u64 s2.toNat) := (hb1.cell (p := ⟨w.heap.size, 2, none⟩) (by first | omega | (simp; done) | (simp; omega))).trans (by go_simp); have kf1w_heap_size_2 : w1.frozen? ⟨w.heap.size, 2, none⟩ = false := (hb1.frozen (p := ⟨w.heap.size, 2, none⟩) (by first | omega | (simp; done) | (simp; omega))).trans (by go_simp); have kc1w_heap_size_3 : w1.cell? ⟨w.heap.size, 3, none⟩ = some (.int .u64 s3.toNat) := (hb1.cell (p := ⟨w.heap.size, 3, none⟩) (by first | omega | (simp; done) | (simp; omega))).trans (by go_simp); have kf1w_heap_size_3 : w1.frozen? ⟨w.heap.size, 3, none⟩ = false := (hb1.frozen (p := ⟨w.heap.size, 3, none⟩) (by first | omega | (simp; done) | (simp; omega))).trans (by go_simp)
  go_wp2_with fail
  have hbw : Below w.heap.size w w1 := by (repeat' (first | (with_reducible exact Below.refl _ _) | (with_reducible assumption) | (with_reducible refine Below.alloc ?_ ?_ _) | (with_reducible refine Below.drew ?_) | (with_reducible refine below_drewN ?_ _) | (with_reducible refine Below.setCell ?_ ?_ _) | (with_reducible refine Below.trans ?_ (Below.mono (by assumption) ?_)) | go_size))
  clear hb1
  go_region_held3 (fun w' => (w'.cell? ⟨w.heap.size, 0, none⟩ = some (.int .u64 s0.toNat) ∧ w'.cell? ⟨w.heap.size, 1, none⟩ = some (.int .u64 s1.toNat) ∧ w'.cell? ⟨w.heap.size, 2, none⟩ = some (.int .u64 s2.toNat) ∧ w'.cell? ⟨w.heap.size, 3, none⟩ = some (.int .u64 s3.toNat)))
    (go_keep)
    (first
      | (go_at_call_of 27 (Value.int IntKind.u64 ((BitVec.toNat s0 : Nat) : Int)); refine (D1.out _).mono ?_; rintro e w' ⟨rfl, hb⟩; have hk := keep_cell hb; have hz := hb.size; (try simp at hz))
      | (go_at_call_of 27 (Value.int IntKind.u64 ((BitVec.toNat z0 : Nat) : Int)); refine (D4.out _).mono ?_; rintro e w' ⟨rfl, hb⟩; have hk := keep_cell hb; have hz := hb.size; (try simp at hz))
      | (go_at_call_of 34 (Value.int IntKind.u64 ((BitVec.toNat y0 : Nat) : Int)); refine (D2.out _).mono ?_; rintro e w' ⟨rfl, hb⟩; have hk := keep_cell hb; have hz := hb.size; (try simp at hz))
      | (go_at_call_of 34 (Value.int IntKind.u64 ((BitVec.toNat s0 : Nat) : Int)); refine (D3.out _).mono ?_; rintro e w' ⟨rfl, hb⟩; have hk := keep_cell hb; have hz := hb.size; (try simp at hz))
      | (go_at_call_of 29 (Value.int IntKind.u64 ((BitVec.toNat s0 : Nat) : Int)); refine (D5.out _).mono ?_; rintro e w' ⟨rfl, hb⟩; have hk := keep_cell hb; have hz := hb.size; (try simp at hz))
      | (go_at_call_of 29 (Value.int IntKind.u64 ((BitVec.toNat y0 : Nat) : Int)); refine (D6.out _).mono ?_; rintro e w' ⟨rfl, hb⟩; have hk := keep_cell hb; have hz := hb.size; (try simp at hz))
      | (go_at_call_of 29 (Value.int IntKind.u64 ((BitVec.toNat z0 : Nat) : Int)); refine (D7.out _).mono ?_; rintro e w' ⟨rfl, hb⟩; have hk := keep_cell hb; have hz := hb.size; (try simp at hz)))
  all_goals go_wp2
  all_goals go_ret
  all_goals exact ⟨rfl, by (repeat' (first | (with_reducible exact Below.refl _ _) | (with_reducible assumption) | (with_reducible refine Below.alloc ?_ ?_ _) | (with_reducible refine Below.drew ?_) | (with_reducible refine below_drewN ?_ _) | (with_reducible refine Below.setCell ?_ ?_ _) | (with_reducible refine Below.trans ?_ (Below.mono (by assumption) ?_)) | go_size))⟩
end Go.Proofs.Ytpkfgpbneogijaa
