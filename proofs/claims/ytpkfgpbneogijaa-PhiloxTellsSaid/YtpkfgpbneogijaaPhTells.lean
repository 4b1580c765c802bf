/- PhiloxTells, walked. -/
import Derived.Test.YtpkfgpbneogijaaPhG
import Derived.Deep.RegionHeld3
import Derived.Deep.CutRange
namespace Go.Proofs.Ytpkfgpbneogijaa
open Go Go.RowKit

set_option maxRecDepth 100000 in
set_option maxHeartbeats 2000000 in
theorem philoxTells_walk (b0 b1 b2 b3 k0 k1 : BitVec 32) (z : Int) (w : World) :
    Calls Try.prog 3 #[.agg #[.int .u32 b0.toNat, .int .u32 b1.toNat, .int .u32 b2.toNat, .int .u32 b3.toNat], .agg #[.int .u32 k0.toNat, .int .u32 k1.toNat], .int .i64 z] w fun e w' => e = .returned (.bool true) ∧ Below w.heap.size w w' := by
  obtain ⟨r, hr⟩ : ∃ r, Ph.round ⟨b0, b1, b2, b3⟩ ⟨k0, k1⟩ = r := ⟨_, rfl⟩
  obtain ⟨x, hx⟩ : ∃ x, Ph.next ⟨k0, k1⟩ = x := ⟨_, rfl⟩
  obtain ⟨o, ho⟩ : ∃ o, Ph.mix 10 ⟨b0, b1, b2, b3⟩ ⟨k0, k1⟩ = o := ⟨_, rfl⟩
  obtain ⟨r0, r1, r2, r3⟩ := r
  obtain ⟨x0, x1⟩ := x
  obtain ⟨o0, o1, o2, o3⟩ := o
  have C1 : ∀ w, Calls Try.prog 15 #[.agg #[.int .u32 b0.toNat, .int .u32 b1.toNat, .int .u32 b2.toNat, .int .u32 b3.toNat], .agg #[.int .u32 k0.toNat, .int .u32 k1.toNat]] w fun e w' => e = .returned (.agg #[.int .u32 r0.toNat, .int .u32 r1.toNat, .int .u32 r2.toNat, .int .u32 r3.toNat]) ∧ Below w.heap.size w w' := by
    intro w; have h := round_c b0 b1 b2 b3 k0 k1 w; rw [hr] at h; exact h
  have C2 : ∀ w, Calls Try.prog 16 #[.agg #[.int .u32 b0.toNat, .int .u32 b1.toNat, .int .u32 b2.toNat, .int .u32 b3.toNat], .agg #[.int .u32 k0.toNat, .int .u32 k1.toNat]] w fun e w' => e = .returned (.agg #[.int .u32 r0.toNat, .int .u32 r1.toNat, .int .u32 r2.toNat, .int .u32 r3.toNat]) ∧ Below w.heap.size w w' := by
    intro w; have h := rround_c b0 b1 b2 b3 k0 k1 w; rw [hr] at h; exact h
  have C3 : ∀ w, Calls Try.prog 17 #[.agg #[.int .u32 k0.toNat, .int .u32 k1.toNat]] w fun e w' => e = .returned (.agg #[.int .u32 x0.toNat, .int .u32 x1.toNat]) ∧ Below w.heap.size w w' := by
    intro w; have h := next_c k0 k1 w; rw [hx] at h; exact h
  have C4 : ∀ w, Calls Try.prog 18 #[.agg #[.int .u32 k0.toNat, .int .u32 k1.toNat]] w fun e w' => e = .returned (.agg #[.int .u32 x0.toNat, .int .u32 x1.toNat]) ∧ Below w.heap.size w w' := by
    intro w; have h := rnext_c k0 k1 w; rw [hx] at h; exact h
  have C5 : ∀ w, Calls Try.prog 19 #[.agg #[.int .u32 b0.toNat, .int .u32 b1.toNat, .int .u32 b2.toNat, .int .u32 b3.toNat], .agg #[.int .u32 k0.toNat, .int .u32 k1.toNat]] w fun e w' => e = .returned (.agg #[.int .u32 o0.toNat, .int .u32 o1.toNat, .int .u32 o2.toNat, .int .u32 o3.toNat]) ∧ Below w.heap.size w w' := by
    intro w; have h := out_c b0 b1 b2 b3 k0 k1 w; rw [ho] at h; exact h
  have C6 : ∀ w, Calls Try.prog 20 #[.agg #[.int .u32 b0.toNat, .int .u32 b1.toNat, .int .u32 b2.toNat, .int .u32 b3.toNat], .agg #[.int .u32 k0.toNat, .int .u32 k1.toNat], .int .i64 10] w fun e w' => e = .returned (.agg #[.int .u32 o0.toNat, .int .u32 o1.toNat, .int .u32 o2.toNat, .int .u32 o3.toNat]) ∧ Below w.heap.size w w' := by
    intro w; have h := rmix_c 10 (by omega) b0 b1 b2 b3 k0 k1 w; rw [ho] at h; exact h
  have E1 := eq4_self r0.toNat r1.toNat r2.toNat r3.toNat
  have E2 := eq2_self x0.toNat x1.toNat
  have E3 := eq4_self o0.toNat o1.toNat o2.toNat o3.toNat
  have D1 := Lib.hid C1
  have D2 := Lib.hid C2
  have D3 := Lib.hid C3
  have D4 := Lib.hid C4
  have D5 := Lib.hid C5
  have D6 := Lib.hid C6
  clear hr hx ho C1 C2 C3 C4 C5 C6
  go_enter Try.func3, Try.ntmps3
  go_wp2_with fail
  refine (awake11_c _).mono ?_
  rintro e w1 ⟨rfl, hb1⟩
  have hz1 := hb1.size; (try simp at hz1)
  have kc1w_heap_size_0 : w1.cell? ⟨w.heap.size, 0, none⟩ = some (.int .u32 b0.toNat) := (hb1.cell (p := ⟨w.heap.size, 0, none⟩) (by first | omega | (simp; done) | (simp; omega))).trans (by go_simp); have kf1w_heap_size_0 : w1.frozen? ⟨w.heap.size, 0, none⟩ = false := (hb1.frozen (p := ⟨w.heap.size, 0, none⟩) (by first | omega | (simp; done) | (simp; omega))).trans (by go_simp); have kc1w_heap_size_1 : w1.cell? ⟨w.heap.size, 1, none⟩ = some (.int .u32 b1.toNat) := (hb1.cell (p := ⟨w.heap.size, 1, none⟩) (by first | omega | (simp; done) | (simp; omega))).trans (by go_simp); have kf1w_heap_size_1 : w1.frozen? ⟨w.heap.size, 1, none⟩ = false := (hb1.frozen (p := ⟨w.heap.size, 1, none⟩) (by first | omega | (simp; done) | (simp; omega))).trans (by go_simp); have kc1w_heap_size_2 : w1.cell? ⟨w.heap.size, 2, none⟩ = some (.int .u32 b2.toNat) := (hb1.cell (p := ⟨w.heap.size, 2, none⟩) (by first | omega | (simp; done) | (simp; omega))).trans (by go_simp); have kf1w_heap_size_2 : w1.frozen? ⟨w.heap.size, 2, none⟩ = false := (hb1.frozen (p := ⟨w.heap.size, 2, none⟩) (by first | omega | (simp; done) | (simp; omega))).trans (by go_simp); have kc1w_heap_size_3 : w1.cell? ⟨w.heap.size, 3, none⟩ = some (.int .u32 b3.toNat) := (hb1.cell (p := ⟨w.heap.size, 3, none⟩) (by first | omega | (simp; done) | (simp; omega))).trans (by go_simp); have kf1w_heap_size_3 : w1.frozen? ⟨w.heap.size, 3, none⟩ = false := (hb1.frozen (p := ⟨w.heap.size, 3, none⟩) (by first | omega | (simp; done) | (simp; omega))).trans (by go_simp)
  have kc1w_heap_size___1_0 : w1.cell? ⟨w.heap.size + 1, 0, none⟩ = some (.int .u32 k0.toNat) := (hb1.cell (p := ⟨w.heap.size + 1, 0, none⟩) (by first | omega | (simp; done) | (simp; omega))).trans (by go_simp); have kf1w_heap_size___1_0 : w1.frozen? ⟨w.heap.size + 1, 0, none⟩ = false := (hb1.frozen (p := ⟨w.heap.size + 1, 0, none⟩) (by first | omega | (simp; done) | (simp; omega))).trans (by go_simp); have kc1w_heap_size___1_1 : w1.cell? ⟨w.heap.size + 1, 1, none⟩ = some (.int .u32 k1.toNat) := (hb1.cell (p := ⟨w.heap.size + 1, 1, none⟩) (by first | omega | (simp; done) | (simp; omega))).trans (by go_simp); have kf1w_heap_size___1_1 : w1.frozen? ⟨w.heap.size + 1, 1, none⟩ = false := (hb1.frozen (p := ⟨w.heap.size + 1, 1, none⟩) (by first | omega | (simp; done) | (simp; omega))).trans (by go_simp)
  have hw1 : Below w.heap.size w w1 := by (repeat' (first | (with_reducible exact Below.refl _ _) | (with_reducible assumption) | (with_reducible refine Below.alloc ?_ ?_ _) | (with_reducible refine Below.drew ?_) | (with_reducible refine below_drewN ?_ _) | (with_reducible refine Below.setCell ?_ ?_ _) | (with_reducible refine Below.trans ?_ (Below.mono (by assumption) ?_)) | go_size))
  have HW1 := Lib.hid hw1
  have hB1 : Boxes w1 [(w.heap.size, [.int .u32 b0.toNat, .int .u32 b1.toNat, .int .u32 b2.toNat, .int .u32 b3.toNat]), (w.heap.size + 1, [.int .u32 k0.toNat, .int .u32 k1.toNat])] := (Boxes.cons (box4 ⟨by go_simp, by go_simp, by go_simp, by go_simp⟩ ⟨by go_simp, by go_simp, by go_simp, by go_simp⟩) (Boxes.cons (box2 ⟨by go_simp, by go_simp⟩ ⟨by go_simp, by go_simp⟩) (Boxes.nil _)))
  have HB1 := Lib.hid hB1
  clear hw1 hb1 hB1
  go_upto_region 3 with fail
  go_cut [35] from 13 to 35 (fun c wx => c = .bool false ∧ Below w1.heap.size w1 wx)
  case first =>
    refine wp_region_held_drew (S := (fun w' => ((w'.cell? ⟨w.heap.size, 0, none⟩ = some (.int .u32 b0.toNat) ∧ w'.cell? ⟨w.heap.size, 1, none⟩ = some (.int .u32 b1.toNat) ∧ w'.cell? ⟨w.heap.size, 2, none⟩ = some (.int .u32 b2.toNat) ∧ w'.cell? ⟨w.heap.size, 3, none⟩ = some (.int .u32 b3.toNat)) ∧ (w'.cell? ⟨w.heap.size + 1, 0, none⟩ = some (.int .u32 k0.toNat) ∧ w'.cell? ⟨w.heap.size + 1, 1, none⟩ = some (.int .u32 k1.toNat))))) (by kernel_rfl) (by (try dsimp only); go_keep) (fun hHeld => ?_)
    first
      | (refine wpAnyH_take (i := 0) (v := ?_) (by (simp only [List.getElem?_toArray, List.getElem?_cons_zero, List.getElem?_cons_succ]; rfl)) (by kernel_rfl) (by kernel_rfl) (by kernel_rfl) (by (intro _ _ _ h; exact h)) (Or.inl ⟨by rfl, ?_⟩) (by assumption) ?_; rotate_left; intro w hSw; (try dsimp only at hSw); go_simp; (try with_reducible rfl))
      | (refine wpAnyH_take (i := 0) (v := undef) (by (simp only [List.getElem?_toArray, List.getElem?_cons_zero, List.getElem?_cons_succ]; rfl)) (by kernel_rfl) (by kernel_rfl) (by kernel_rfl) (by (intro _ _ _ h; exact h)) (Or.inr ⟨by rfl, rfl⟩) (by assumption) ?_)
    (try simp only [Act.put, List.setIfInBounds_toArray, List.set_cons_zero, List.set_cons_succ])
    first
      | (refine wpAnyH_take (i := 1) (v := ?_) (by (simp only [List.getElem?_toArray, List.getElem?_cons_zero, List.getElem?_cons_succ]; rfl)) (by kernel_rfl) (by kernel_rfl) (by kernel_rfl) (by (intro _ _ _ h; exact h)) (Or.inl ⟨by rfl, ?_⟩) (by assumption) ?_; rotate_left; intro w hSw; (try dsimp only at hSw); go_simp; (try with_reducible rfl))
      | (refine wpAnyH_take (i := 1) (v := undef) (by (simp only [List.getElem?_toArray, List.getElem?_cons_zero, List.getElem?_cons_succ]; rfl)) (by kernel_rfl) (by kernel_rfl) (by kernel_rfl) (by (intro _ _ _ h; exact h)) (Or.inr ⟨by rfl, rfl⟩) (by assumption) ?_)
    (try simp only [Act.put, List.setIfInBounds_toArray, List.set_cons_zero, List.set_cons_succ])
    first
      | (refine wpAnyH_take (i := 3) (v := ?_) (by (simp only [List.getElem?_toArray, List.getElem?_cons_zero, List.getElem?_cons_succ]; rfl)) (by kernel_rfl) (by kernel_rfl) (by kernel_rfl) (by (intro _ _ _ h; exact h)) (Or.inl ⟨by rfl, ?_⟩) (by assumption) ?_; rotate_left; intro w hSw; (try dsimp only at hSw); go_simp; (try with_reducible rfl))
      | (refine wpAnyH_take (i := 3) (v := undef) (by (simp only [List.getElem?_toArray, List.getElem?_cons_zero, List.getElem?_cons_succ]; rfl)) (by kernel_rfl) (by kernel_rfl) (by kernel_rfl) (by (intro _ _ _ h; exact h)) (Or.inr ⟨by rfl, rfl⟩) (by assumption) ?_)
    (try simp only [Act.put, List.setIfInBounds_toArray, List.set_cons_zero, List.set_cons_succ])
    first
      | (refine wpAnyH_take (i := 4) (v := ?_) (by (simp only [List.getElem?_toArray, List.getElem?_cons_zero, List.getElem?_cons_succ]; rfl)) (by kernel_rfl) (by kernel_rfl) (by kernel_rfl) (by (intro _ _ _ h; exact h)) (Or.inl ⟨by rfl, ?_⟩) (by assumption) ?_; rotate_left; intro w hSw; (try dsimp only at hSw); go_simp; (try with_reducible rfl))
      | (refine wpAnyH_take (i := 4) (v := undef) (by (simp only [List.getElem?_toArray, List.getElem?_cons_zero, List.getElem?_cons_succ]; rfl)) (by kernel_rfl) (by kernel_rfl) (by kernel_rfl) (by (intro _ _ _ h; exact h)) (Or.inr ⟨by rfl, rfl⟩) (by assumption) ?_)
    (try simp only [Act.put, List.setIfInBounds_toArray, List.set_cons_zero, List.set_cons_succ])
    refine wpAnyH_ready (rs := [2]) (by kernel_rfl) (by simp) (AllReadyH.cons (by (simp only [List.getElem?_toArray, List.getElem?_cons_zero, List.getElem?_cons_succ]; rfl)) (fun K hK => ?_) AllReadyH.nil)
    go_simp
    refine (D1.out _).mono ?_; rintro e w' ⟨rfl, hb⟩; have hk := keep_cell hb; have hz := hb.size; (try simp at hz)
    go_wp2_with fail
    refine hK.out _ _ ?_ (fun hHeld => ?_)
    · (try dsimp only)
      go_keep
    clear hK K
    (try simp only [Act.put, List.setIfInBounds_toArray, List.set_cons_zero, List.set_cons_succ])
    refine wpAnyH_ready (rs := [5]) (by kernel_rfl) (by simp) (AllReadyH.cons (by (simp only [List.getElem?_toArray, List.getElem?_cons_zero, List.getElem?_cons_succ]; rfl)) (fun K hK => ?_) AllReadyH.nil)
    go_simp
    refine (D2.out _).mono ?_; rintro e w' ⟨rfl, hb⟩; have hk := keep_cell hb; have hz := hb.size; (try simp at hz)
    go_wp2_with fail
    refine hK.out _ _ ?_ (fun hHeld => ?_)
    · (try dsimp only)
      go_keep
    clear hK K
    (try simp only [Act.put, List.setIfInBounds_toArray, List.set_cons_zero, List.set_cons_succ])
    first
      | (refine wpAnyH_take (i := 6) (v := ?_) (by (simp only [List.getElem?_toArray, List.getElem?_cons_zero, List.getElem?_cons_succ]; rfl)) (by kernel_rfl) (by kernel_rfl) (by kernel_rfl) (by (intro _ _ _ h; exact h)) (Or.inl ⟨by rfl, ?_⟩) (by assumption) ?_; rotate_left; intro w hSw; (try dsimp only at hSw); go_simp; (try with_reducible rfl))
      | (refine wpAnyH_take (i := 6) (v := undef) (by (simp only [List.getElem?_toArray, List.getElem?_cons_zero, List.getElem?_cons_succ]; rfl)) (by kernel_rfl) (by kernel_rfl) (by kernel_rfl) (by (intro _ _ _ h; exact h)) (Or.inr ⟨by rfl, rfl⟩) (by assumption) ?_)
    (try simp only [Act.put, List.setIfInBounds_toArray, List.set_cons_zero, List.set_cons_succ])
    first
      | (refine wpAnyH_take (i := 7) (v := ?_) (by (simp only [List.getElem?_toArray, List.getElem?_cons_zero, List.getElem?_cons_succ]; rfl)) (by kernel_rfl) (by kernel_rfl) (by kernel_rfl) (by (intro _ _ _ h; exact h)) (Or.inl ⟨by rfl, ?_⟩) (by assumption) ?_; rotate_left; intro w hSw; (try dsimp only at hSw); go_simp; (try with_reducible rfl))
      | (refine wpAnyH_take (i := 7) (v := undef) (by (simp only [List.getElem?_toArray, List.getElem?_cons_zero, List.getElem?_cons_succ]; rfl)) (by kernel_rfl) (by kernel_rfl) (by kernel_rfl) (by (intro _ _ _ h; exact h)) (Or.inr ⟨by rfl, rfl⟩) (by assumption) ?_)
    (try simp only [Act.put, List.setIfInBounds_toArray, List.set_cons_zero, List.set_cons_succ])
    first
      | (refine wpAnyH_take (i := 8) (v := ?_) (by (simp only [List.getElem?_toArray, List.getElem?_cons_zero, List.getElem?_cons_succ]; rfl)) (by kernel_rfl) (by kernel_rfl) (by kernel_rfl) (by (intro _ _ _ h; exact h)) (Or.inl ⟨by rfl, ?_⟩) (by assumption) ?_; rotate_left; intro w hSw; (try dsimp only at hSw); go_simp; (try with_reducible rfl))
      | (refine wpAnyH_take (i := 8) (v := undef) (by (simp only [List.getElem?_toArray, List.getElem?_cons_zero, List.getElem?_cons_succ]; rfl)) (by kernel_rfl) (by kernel_rfl) (by kernel_rfl) (by (intro _ _ _ h; exact h)) (Or.inr ⟨by rfl, rfl⟩) (by assumption) ?_)
    (try simp only [Act.put, List.setIfInBounds_toArray, List.set_cons_zero, List.set_cons_succ])
    first
      | (refine wpAnyH_take (i := 10) (v := ?_) (by (simp only [List.getElem?_toArray, List.getElem?_cons_zero, List.getElem?_cons_succ]; rfl)) (by kernel_rfl) (by kernel_rfl) (by kernel_rfl) (by (intro _ _ _ h; exact h)) (Or.inl ⟨by rfl, ?_⟩) (by assumption) ?_; rotate_left; intro w hSw; (try dsimp only at hSw); go_simp; (try with_reducible rfl))
      | (refine wpAnyH_take (i := 10) (v := undef) (by (simp only [List.getElem?_toArray, List.getElem?_cons_zero, List.getElem?_cons_succ]; rfl)) (by kernel_rfl) (by kernel_rfl) (by kernel_rfl) (by (intro _ _ _ h; exact h)) (Or.inr ⟨by rfl, rfl⟩) (by assumption) ?_)
    (try simp only [Act.put, List.setIfInBounds_toArray, List.set_cons_zero, List.set_cons_succ])
    refine wpAnyH_ready (rs := [9]) (by kernel_rfl) (by simp) (AllReadyH.cons (by (simp only [List.getElem?_toArray, List.getElem?_cons_zero, List.getElem?_cons_succ]; rfl)) (fun K hK => ?_) AllReadyH.nil)
    go_simp
    refine (D3.out _).mono ?_; rintro e w' ⟨rfl, hb⟩; have hk := keep_cell hb; have hz := hb.size; (try simp at hz)
    go_wp2_with fail
    refine hK.out _ _ ?_ (fun hHeld => ?_)
    · (try dsimp only)
      go_keep
    clear hK K
    (try simp only [Act.put, List.setIfInBounds_toArray, List.set_cons_zero, List.set_cons_succ])
    refine wpAnyH_ready (rs := [11]) (by kernel_rfl) (by simp) (AllReadyH.cons (by (simp only [List.getElem?_toArray, List.getElem?_cons_zero, List.getElem?_cons_succ]; rfl)) (fun K hK => ?_) AllReadyH.nil)
    go_simp
    refine (D4.out _).mono ?_; rintro e w' ⟨rfl, hb⟩; have hk := keep_cell hb; have hz := hb.size; (try simp at hz)
    go_wp2_with fail
    refine hK.out _ _ ?_ (fun hHeld => ?_)
    · (try dsimp only)
      go_keep
    clear hK K
    (try simp only [Act.put, List.setIfInBounds_toArray, List.set_cons_zero, List.set_cons_succ])
    first
      | (refine wpAnyH_take (i := 12) (v := ?_) (by (simp only [List.getElem?_toArray, List.getElem?_cons_zero, List.getElem?_cons_succ]; rfl)) (by kernel_rfl) (by kernel_rfl) (by kernel_rfl) (by (intro _ _ _ h; exact h)) (Or.inl ⟨by rfl, ?_⟩) (by assumption) ?_; rotate_left; intro w hSw; (try dsimp only at hSw); go_simp; (try with_reducible rfl))
      | (refine wpAnyH_take (i := 12) (v := undef) (by (simp only [List.getElem?_toArray, List.getElem?_cons_zero, List.getElem?_cons_succ]; rfl)) (by kernel_rfl) (by kernel_rfl) (by kernel_rfl) (by (intro _ _ _ h; exact h)) (Or.inr ⟨by rfl, rfl⟩) (by assumption) ?_)
    (try simp only [Act.put, List.setIfInBounds_toArray, List.set_cons_zero, List.set_cons_succ])
    first
      | (refine wpAnyH_take (i := 13) (v := ?_) (by (simp only [List.getElem?_toArray, List.getElem?_cons_zero, List.getElem?_cons_succ]; rfl)) (by kernel_rfl) (by kernel_rfl) (by kernel_rfl) (by (intro _ _ _ h; exact h)) (Or.inl ⟨by rfl, ?_⟩) (by assumption) ?_; rotate_left; intro w hSw; (try dsimp only at hSw); go_simp; (try with_reducible rfl))
      | (refine wpAnyH_take (i := 13) (v := undef) (by (simp only [List.getElem?_toArray, List.getElem?_cons_zero, List.getElem?_cons_succ]; rfl)) (by kernel_rfl) (by kernel_rfl) (by kernel_rfl) (by (intro _ _ _ h; exact h)) (Or.inr ⟨by rfl, rfl⟩) (by assumption) ?_)
    (try simp only [Act.put, List.setIfInBounds_toArray, List.set_cons_zero, List.set_cons_succ])
    first
      | (refine wpAnyH_take (i := 14) (v := ?_) (by (simp only [List.getElem?_toArray, List.getElem?_cons_zero, List.getElem?_cons_succ]; rfl)) (by kernel_rfl) (by kernel_rfl) (by kernel_rfl) (by (intro _ _ _ h; exact h)) (Or.inl ⟨by rfl, ?_⟩) (by assumption) ?_; rotate_left; intro w hSw; (try dsimp only at hSw); go_simp; (try with_reducible rfl))
      | (refine wpAnyH_take (i := 14) (v := undef) (by (simp only [List.getElem?_toArray, List.getElem?_cons_zero, List.getElem?_cons_succ]; rfl)) (by kernel_rfl) (by kernel_rfl) (by kernel_rfl) (by (intro _ _ _ h; exact h)) (Or.inr ⟨by rfl, rfl⟩) (by assumption) ?_)
    (try simp only [Act.put, List.setIfInBounds_toArray, List.set_cons_zero, List.set_cons_succ])
    first
      | (refine wpAnyH_take (i := 15) (v := ?_) (by (simp only [List.getElem?_toArray, List.getElem?_cons_zero, List.getElem?_cons_succ]; rfl)) (by kernel_rfl) (by kernel_rfl) (by kernel_rfl) (by (intro _ _ _ h; exact h)) (Or.inl ⟨by rfl, ?_⟩) (by assumption) ?_; rotate_left; intro w hSw; (try dsimp only at hSw); go_simp; (try with_reducible rfl))
      | (refine wpAnyH_take (i := 15) (v := undef) (by (simp only [List.getElem?_toArray, List.getElem?_cons_zero, List.getElem?_cons_succ]; rfl)) (by kernel_rfl) (by kernel_rfl) (by kernel_rfl) (by (intro _ _ _ h; exact h)) (Or.inr ⟨by rfl, rfl⟩) (by assumption) ?_)
    (try simp only [Act.put, List.setIfInBounds_toArray, List.set_cons_zero, List.set_cons_succ])
    first
      | (refine wpAnyH_take (i := 16) (v := ?_) (by (simp only [List.getElem?_toArray, List.getElem?_cons_zero, List.getElem?_cons_succ]; rfl)) (by kernel_rfl) (by kernel_rfl) (by kernel_rfl) (by (intro _ _ _ h; exact h)) (Or.inl ⟨by rfl, ?_⟩) (by assumption) ?_; rotate_left; intro w hSw; (try dsimp only at hSw); go_simp; (try with_reducible rfl))
      | (refine wpAnyH_take (i := 16) (v := undef) (by (simp only [List.getElem?_toArray, List.getElem?_cons_zero, List.getElem?_cons_succ]; rfl)) (by kernel_rfl) (by kernel_rfl) (by kernel_rfl) (by (intro _ _ _ h; exact h)) (Or.inr ⟨by rfl, rfl⟩) (by assumption) ?_)
    (try simp only [Act.put, List.setIfInBounds_toArray, List.set_cons_zero, List.set_cons_succ])
    first
      | (refine wpAnyH_take (i := 18) (v := ?_) (by (simp only [List.getElem?_toArray, List.getElem?_cons_zero, List.getElem?_cons_succ]; rfl)) (by kernel_rfl) (by kernel_rfl) (by kernel_rfl) (by (intro _ _ _ h; exact h)) (Or.inl ⟨by rfl, ?_⟩) (by assumption) ?_; rotate_left; intro w hSw; (try dsimp only at hSw); go_simp; (try with_reducible rfl))
      | (refine wpAnyH_take (i := 18) (v := undef) (by (simp only [List.getElem?_toArray, List.getElem?_cons_zero, List.getElem?_cons_succ]; rfl)) (by kernel_rfl) (by kernel_rfl) (by kernel_rfl) (by (intro _ _ _ h; exact h)) (Or.inr ⟨by rfl, rfl⟩) (by assumption) ?_)
    (try simp only [Act.put, List.setIfInBounds_toArray, List.set_cons_zero, List.set_cons_succ])
    first
      | (refine wpAnyH_take (i := 19) (v := ?_) (by (simp only [List.getElem?_toArray, List.getElem?_cons_zero, List.getElem?_cons_succ]; rfl)) (by kernel_rfl) (by kernel_rfl) (by kernel_rfl) (by (intro _ _ _ h; exact h)) (Or.inl ⟨by rfl, ?_⟩) (by assumption) ?_; rotate_left; intro w hSw; (try dsimp only at hSw); go_simp; (try with_reducible rfl))
      | (refine wpAnyH_take (i := 19) (v := undef) (by (simp only [List.getElem?_toArray, List.getElem?_cons_zero, List.getElem?_cons_succ]; rfl)) (by kernel_rfl) (by kernel_rfl) (by kernel_rfl) (by (intro _ _ _ h; exact h)) (Or.inr ⟨by rfl, rfl⟩) (by assumption) ?_)
    (try simp only [Act.put, List.setIfInBounds_toArray, List.set_cons_zero, List.set_cons_succ])
    refine wpAnyH_ready (rs := [17]) (by kernel_rfl) (by simp) (AllReadyH.cons (by (simp only [List.getElem?_toArray, List.getElem?_cons_zero, List.getElem?_cons_succ]; rfl)) (fun K hK => ?_) AllReadyH.nil)
    go_simp
    refine (D5.out _).mono ?_; rintro e w' ⟨rfl, hb⟩; have hk := keep_cell hb; have hz := hb.size; (try simp at hz)
    go_wp2_with fail
    refine hK.out _ _ ?_ (fun hHeld => ?_)
    · (try dsimp only)
      go_keep
    clear hK K
    (try simp only [Act.put, List.setIfInBounds_toArray, List.set_cons_zero, List.set_cons_succ])
    refine wpAnyH_ready (rs := [20]) (by kernel_rfl) (by simp) (AllReadyH.cons (by (simp only [List.getElem?_toArray, List.getElem?_cons_zero, List.getElem?_cons_succ]; rfl)) (fun K hK => ?_) AllReadyH.nil)
    go_simp
    refine (D6.out _).mono ?_; rintro e w' ⟨rfl, hb⟩; have hk := keep_cell hb; have hz := hb.size; (try simp at hz)
    go_wp2_with fail
    refine hK.out _ _ ?_ (fun hHeld => ?_)
    · (try dsimp only)
      go_keep
    clear hK K
    (try simp only [Act.put, List.setIfInBounds_toArray, List.set_cons_zero, List.set_cons_succ])
    first
      | (refine wpAnyH_take (i := 21) (v := ?_) (by (simp only [List.getElem?_toArray, List.getElem?_cons_zero, List.getElem?_cons_succ]; rfl)) (by kernel_rfl) (by kernel_rfl) (by kernel_rfl) (by (intro _ _ _ h; exact h)) (Or.inl ⟨by rfl, ?_⟩) (by assumption) ?_; rotate_left; intro w hSw; (try dsimp only at hSw); go_simp; (try with_reducible rfl))
      | (refine wpAnyH_take (i := 21) (v := undef) (by (simp only [List.getElem?_toArray, List.getElem?_cons_zero, List.getElem?_cons_succ]; rfl)) (by kernel_rfl) (by kernel_rfl) (by kernel_rfl) (by (intro _ _ _ h; exact h)) (Or.inr ⟨by rfl, rfl⟩) (by assumption) ?_)
    (try simp only [Act.put, List.setIfInBounds_toArray, List.set_cons_zero, List.set_cons_succ])
    first
      | (refine wpAnyH_take (i := 22) (v := ?_) (by (simp only [List.getElem?_toArray, List.getElem?_cons_zero, List.getElem?_cons_succ]; rfl)) (by kernel_rfl) (by kernel_rfl) (by kernel_rfl) (by (intro _ _ _ h; exact h)) (Or.inl ⟨by rfl, ?_⟩) (by assumption) ?_; rotate_left; intro w hSw; (try dsimp only at hSw); go_simp; (try with_reducible rfl))
      | (refine wpAnyH_take (i := 22) (v := undef) (by (simp only [List.getElem?_toArray, List.getElem?_cons_zero, List.getElem?_cons_succ]; rfl)) (by kernel_rfl) (by kernel_rfl) (by kernel_rfl) (by (intro _ _ _ h; exact h)) (Or.inr ⟨by rfl, rfl⟩) (by assumption) ?_)
    (try simp only [Act.put, List.setIfInBounds_toArray, List.set_cons_zero, List.set_cons_succ])
    refine wpAnyH_done (by kernel_rfl) ?_ _
    go_wp2_with fail
    go_meet
    case rel => exact ⟨rfl, by (repeat' (first | (with_reducible exact Below.refl _ _) | (with_reducible assumption) | (with_reducible refine Below.alloc ?_ ?_ _) | (with_reducible refine Below.drew ?_) | (with_reducible refine below_drewN ?_ _) | (with_reducible refine Below.setCell ?_ ?_ _) | (with_reducible refine Below.trans ?_ (Below.mono (by assumption) ?_)) | go_size))⟩
  case rest =>
    obtain ⟨rfl, hbc⟩ := hcut
    have hzc := hbc.size
    have hBc := HB1.out.below hbc
    have fcwc_b0 : wc.cell? ⟨w.heap.size, 0, none⟩ = some (.int .u32 b0.toNat) := (hBc.head 0 _ rfl).1; have ffwc_b0 : wc.frozen? ⟨w.heap.size, 0, none⟩ = false := (hBc.head 0 _ rfl).2; have fcwc_b1 : wc.cell? ⟨w.heap.size, 1, none⟩ = some (.int .u32 b1.toNat) := (hBc.head 1 _ rfl).1; have ffwc_b1 : wc.frozen? ⟨w.heap.size, 1, none⟩ = false := (hBc.head 1 _ rfl).2; have fcwc_b2 : wc.cell? ⟨w.heap.size, 2, none⟩ = some (.int .u32 b2.toNat) := (hBc.head 2 _ rfl).1; have ffwc_b2 : wc.frozen? ⟨w.heap.size, 2, none⟩ = false := (hBc.head 2 _ rfl).2; have fcwc_b3 : wc.cell? ⟨w.heap.size, 3, none⟩ = some (.int .u32 b3.toNat) := (hBc.head 3 _ rfl).1; have ffwc_b3 : wc.frozen? ⟨w.heap.size, 3, none⟩ = false := (hBc.head 3 _ rfl).2; have fcwc_k0 : wc.cell? ⟨w.heap.size + 1, 0, none⟩ = some (.int .u32 k0.toNat) := (hBc.tail.head 0 _ rfl).1; have ffwc_k0 : wc.frozen? ⟨w.heap.size + 1, 0, none⟩ = false := (hBc.tail.head 0 _ rfl).2; have fcwc_k1 : wc.cell? ⟨w.heap.size + 1, 1, none⟩ = some (.int .u32 k1.toNat) := (hBc.tail.head 1 _ rfl).1; have ffwc_k1 : wc.frozen? ⟨w.heap.size + 1, 1, none⟩ = false := (hBc.tail.head 1 _ rfl).2
    have hwc : Below w.heap.size w wc := HW1.out.trans (hbc.mono (by omega))
    clear hBc D1 D2 D3 D4 D5 D6 E1 E2 E3 hbc
    by_cases hn : z < 0 ∨ 100 < z
    · have E0 := eq4_self 0 0 0 0
      have HN := Lib.hid hn
      clear hn
      go_wp2_with fail
      refine (mix_no z HN.out _ _ _ _ _ _ _).mono ?_
      rintro e w2 ⟨rfl, hb2⟩
      have hz2 := hb2.size; (try simp at hz2)
      have kc2w_heap_size_0 : w2.cell? ⟨w.heap.size, 0, none⟩ = some (.int .u32 b0.toNat) := (hb2.cell (p := ⟨w.heap.size, 0, none⟩) (by first | omega | (simp; done) | (simp; omega))).trans (by go_simp); have kf2w_heap_size_0 : w2.frozen? ⟨w.heap.size, 0, none⟩ = false := (hb2.frozen (p := ⟨w.heap.size, 0, none⟩) (by first | omega | (simp; done) | (simp; omega))).trans (by go_simp); have kc2w_heap_size_1 : w2.cell? ⟨w.heap.size, 1, none⟩ = some (.int .u32 b1.toNat) := (hb2.cell (p := ⟨w.heap.size, 1, none⟩) (by first | omega | (simp; done) | (simp; omega))).trans (by go_simp); have kf2w_heap_size_1 : w2.frozen? ⟨w.heap.size, 1, none⟩ = false := (hb2.frozen (p := ⟨w.heap.size, 1, none⟩) (by first | omega | (simp; done) | (simp; omega))).trans (by go_simp); have kc2w_heap_size_2 : w2.cell? ⟨w.heap.size, 2, none⟩ = some (.int .u32 b2.toNat) := (hb2.cell (p := ⟨w.heap.size, 2, none⟩) (by first | omega | (simp; done) | (simp; omega))).trans (by go_simp); have kf2w_heap_size_2 : w2.frozen? ⟨w.heap.size, 2, none⟩ = false := (hb2.frozen (p := ⟨w.heap.size, 2, none⟩) (by first | omega | (simp; done) | (simp; omega))).trans (by go_simp); have kc2w_heap_size_3 : w2.cell? ⟨w.heap.size, 3, none⟩ = some (.int .u32 b3.toNat) := (hb2.cell (p := ⟨w.heap.size, 3, none⟩) (by first | omega | (simp; done) | (simp; omega))).trans (by go_simp); have kf2w_heap_size_3 : w2.frozen? ⟨w.heap.size, 3, none⟩ = false := (hb2.frozen (p := ⟨w.heap.size, 3, none⟩) (by first | omega | (simp; done) | (simp; omega))).trans (by go_simp)
      have kc2w_heap_size___1_0 : w2.cell? ⟨w.heap.size + 1, 0, none⟩ = some (.int .u32 k0.toNat) := (hb2.cell (p := ⟨w.heap.size + 1, 0, none⟩) (by first | omega | (simp; done) | (simp; omega))).trans (by go_simp); have kf2w_heap_size___1_0 : w2.frozen? ⟨w.heap.size + 1, 0, none⟩ = false := (hb2.frozen (p := ⟨w.heap.size + 1, 0, none⟩) (by first | omega | (simp; done) | (simp; omega))).trans (by go_simp); have kc2w_heap_size___1_1 : w2.cell? ⟨w.heap.size + 1, 1, none⟩ = some (.int .u32 k1.toNat) := (hb2.cell (p := ⟨w.heap.size + 1, 1, none⟩) (by first | omega | (simp; done) | (simp; omega))).trans (by go_simp); have kf2w_heap_size___1_1 : w2.frozen? ⟨w.heap.size + 1, 1, none⟩ = false := (hb2.frozen (p := ⟨w.heap.size + 1, 1, none⟩) (by first | omega | (simp; done) | (simp; omega))).trans (by go_simp)
      go_wp2_with fail
      refine (unmix_no z HN.out _ _ _ _ _ _ _).mono ?_
      rintro e w3 ⟨rfl, hb3⟩
      have hz3 := hb3.size; (try simp at hz3)
      have kc3w_heap_size_0 : w3.cell? ⟨w.heap.size, 0, none⟩ = some (.int .u32 b0.toNat) := (hb3.cell (p := ⟨w.heap.size, 0, none⟩) (by first | omega | (simp; done) | (simp; omega))).trans (by go_simp); have kf3w_heap_size_0 : w3.frozen? ⟨w.heap.size, 0, none⟩ = false := (hb3.frozen (p := ⟨w.heap.size, 0, none⟩) (by first | omega | (simp; done) | (simp; omega))).trans (by go_simp); have kc3w_heap_size_1 : w3.cell? ⟨w.heap.size, 1, none⟩ = some (.int .u32 b1.toNat) := (hb3.cell (p := ⟨w.heap.size, 1, none⟩) (by first | omega | (simp; done) | (simp; omega))).trans (by go_simp); have kf3w_heap_size_1 : w3.frozen? ⟨w.heap.size, 1, none⟩ = false := (hb3.frozen (p := ⟨w.heap.size, 1, none⟩) (by first | omega | (simp; done) | (simp; omega))).trans (by go_simp); have kc3w_heap_size_2 : w3.cell? ⟨w.heap.size, 2, none⟩ = some (.int .u32 b2.toNat) := (hb3.cell (p := ⟨w.heap.size, 2, none⟩) (by first | omega | (simp; done) | (simp; omega))).trans (by go_simp); have kf3w_heap_size_2 : w3.frozen? ⟨w.heap.size, 2, none⟩ = false := (hb3.frozen (p := ⟨w.heap.size, 2, none⟩) (by first | omega | (simp; done) | (simp; omega))).trans (by go_simp); have kc3w_heap_size_3 : w3.cell? ⟨w.heap.size, 3, none⟩ = some (.int .u32 b3.toNat) := (hb3.cell (p := ⟨w.heap.size, 3, none⟩) (by first | omega | (simp; done) | (simp; omega))).trans (by go_simp); have kf3w_heap_size_3 : w3.frozen? ⟨w.heap.size, 3, none⟩ = false := (hb3.frozen (p := ⟨w.heap.size, 3, none⟩) (by first | omega | (simp; done) | (simp; omega))).trans (by go_simp)
      have kc3w_heap_size___1_0 : w3.cell? ⟨w.heap.size + 1, 0, none⟩ = some (.int .u32 k0.toNat) := (hb3.cell (p := ⟨w.heap.size + 1, 0, none⟩) (by first | omega | (simp; done) | (simp; omega))).trans (by go_simp); have kf3w_heap_size___1_0 : w3.frozen? ⟨w.heap.size + 1, 0, none⟩ = false := (hb3.frozen (p := ⟨w.heap.size + 1, 0, none⟩) (by first | omega | (simp; done) | (simp; omega))).trans (by go_simp); have kc3w_heap_size___1_1 : w3.cell? ⟨w.heap.size + 1, 1, none⟩ = some (.int .u32 k1.toNat) := (hb3.cell (p := ⟨w.heap.size + 1, 1, none⟩) (by first | omega | (simp; done) | (simp; omega))).trans (by go_simp); have kf3w_heap_size___1_1 : w3.frozen? ⟨w.heap.size + 1, 1, none⟩ = false := (hb3.frozen (p := ⟨w.heap.size + 1, 1, none⟩) (by first | omega | (simp; done) | (simp; omega))).trans (by go_simp)
      have kc3w2_heap_size_0 : w3.cell? ⟨w2.heap.size, 0, none⟩ = some (.int .u32 0) := (hb3.cell (p := ⟨w2.heap.size, 0, none⟩) (by first | omega | (simp; done) | (simp; omega))).trans (by go_simp); have kf3w2_heap_size_0 : w3.frozen? ⟨w2.heap.size, 0, none⟩ = false := (hb3.frozen (p := ⟨w2.heap.size, 0, none⟩) (by first | omega | (simp; done) | (simp; omega))).trans (by go_simp); have kc3w2_heap_size_1 : w3.cell? ⟨w2.heap.size, 1, none⟩ = some (.int .u32 0) := (hb3.cell (p := ⟨w2.heap.size, 1, none⟩) (by first | omega | (simp; done) | (simp; omega))).trans (by go_simp); have kf3w2_heap_size_1 : w3.frozen? ⟨w2.heap.size, 1, none⟩ = false := (hb3.frozen (p := ⟨w2.heap.size, 1, none⟩) (by first | omega | (simp; done) | (simp; omega))).trans (by go_simp); have kc3w2_heap_size_2 : w3.cell? ⟨w2.heap.size, 2, none⟩ = some (.int .u32 0) := (hb3.cell (p := ⟨w2.heap.size, 2, none⟩) (by first | omega | (simp; done) | (simp; omega))).trans (by go_simp); have kf3w2_heap_size_2 : w3.frozen? ⟨w2.heap.size, 2, none⟩ = false := (hb3.frozen (p := ⟨w2.heap.size, 2, none⟩) (by first | omega | (simp; done) | (simp; omega))).trans (by go_simp); have kc3w2_heap_size_3 : w3.cell? ⟨w2.heap.size, 3, none⟩ = some (.int .u32 0) := (hb3.cell (p := ⟨w2.heap.size, 3, none⟩) (by first | omega | (simp; done) | (simp; omega))).trans (by go_simp); have kf3w2_heap_size_3 : w3.frozen? ⟨w2.heap.size, 3, none⟩ = false := (hb3.frozen (p := ⟨w2.heap.size, 3, none⟩) (by first | omega | (simp; done) | (simp; omega))).trans (by go_simp)
      rcases HN.out with h | h
      · go_wp2
        go_ret
        exact ⟨rfl, by (repeat' (first | (with_reducible exact Below.refl _ _) | (with_reducible assumption) | (with_reducible refine Below.alloc ?_ ?_ _) | (with_reducible refine Below.drew ?_) | (with_reducible refine below_drewN ?_ _) | (with_reducible refine Below.setCell ?_ ?_ _) | (with_reducible refine Below.trans ?_ (Below.mono (by assumption) ?_)) | go_size))⟩
      · have h0 : ¬ z < 0 := by omega
        go_wp2
        go_ret
        exact ⟨rfl, by (repeat' (first | (with_reducible exact Below.refl _ _) | (with_reducible assumption) | (with_reducible refine Below.alloc ?_ ?_ _) | (with_reducible refine Below.drew ?_) | (with_reducible refine below_drewN ?_ _) | (with_reducible refine Below.setCell ?_ ?_ _) | (with_reducible refine Below.trans ?_ (Below.mono (by assumption) ?_)) | go_size))⟩
    · obtain ⟨n, rfl⟩ : ∃ n : Nat, z = n := ⟨z.toNat, by omega⟩
      have h1 : n ≤ 100 := by omega
      have n0 : ¬ (n : Int) < 0 := by omega
      have n1 : ¬ (100 : Int) < n := by omega
      obtain ⟨m, hm⟩ : ∃ m, Ph.mix n ⟨b0, b1, b2, b3⟩ ⟨k0, k1⟩ = m := ⟨_, rfl⟩
      obtain ⟨u, hu⟩ : ∃ u, Ph.unmix n ⟨b0, b1, b2, b3⟩ ⟨k0, k1⟩ = u := ⟨_, rfl⟩
      obtain ⟨m0, m1, m2, m3⟩ := m
      obtain ⟨u0, u1, u2, u3⟩ := u
      have C7 : ∀ w, Calls Try.prog 21 #[.agg #[.int .u32 b0.toNat, .int .u32 b1.toNat, .int .u32 b2.toNat, .int .u32 b3.toNat], .agg #[.int .u32 k0.toNat, .int .u32 k1.toNat], .int .i64 n] w fun e w' => e = .returned (.tuple #[.agg #[.int .u32 m0.toNat, .int .u32 m1.toNat, .int .u32 m2.toNat, .int .u32 m3.toNat], .int .i64 0]) ∧ Below w.heap.size w w' := by
        intro w; have h := mix_ok n h1 b0 b1 b2 b3 k0 k1 w; rw [hm] at h; exact h
      have C8 : ∀ w, Calls Try.prog 22 #[.agg #[.int .u32 b0.toNat, .int .u32 b1.toNat, .int .u32 b2.toNat, .int .u32 b3.toNat], .agg #[.int .u32 k0.toNat, .int .u32 k1.toNat], .int .i64 n] w fun e w' => e = .returned (.tuple #[.agg #[.int .u32 u0.toNat, .int .u32 u1.toNat, .int .u32 u2.toNat, .int .u32 u3.toNat], .int .i64 0]) ∧ Below w.heap.size w w' := by
        intro w; have h := unmix_ok n h1 b0 b1 b2 b3 k0 k1 w; rw [hu] at h; exact h
      have C9 : ∀ w, Calls Try.prog 20 #[.agg #[.int .u32 b0.toNat, .int .u32 b1.toNat, .int .u32 b2.toNat, .int .u32 b3.toNat], .agg #[.int .u32 k0.toNat, .int .u32 k1.toNat], .int .i64 n] w fun e w' => e = .returned (.agg #[.int .u32 m0.toNat, .int .u32 m1.toNat, .int .u32 m2.toNat, .int .u32 m3.toNat]) ∧ Below w.heap.size w w' := by
        intro w; have h := rmix_c n (by omega) b0 b1 b2 b3 k0 k1 w; rw [hm] at h; exact h
      have C10 : ∀ w, Calls Try.prog 20 #[.agg #[.int .u32 u0.toNat, .int .u32 u1.toNat, .int .u32 u2.toNat, .int .u32 u3.toNat], .agg #[.int .u32 k0.toNat, .int .u32 k1.toNat], .int .i64 n] w fun e w' => e = .returned (.agg #[.int .u32 b0.toNat, .int .u32 b1.toNat, .int .u32 b2.toNat, .int .u32 b3.toNat]) ∧ Below w.heap.size w w' := by
        intro w; have h := rmix_c n (by omega) u0 u1 u2 u3 k0 k1 w; rw [← hu, Ph.mix_unmix] at h; exact h
      have E1 := eq4_self m0.toNat m1.toNat m2.toNat m3.toNat
      have E2 := eq4_self b0.toNat b1.toNat b2.toNat b3.toNat
      have D7 := Lib.hid C7
      have D8 := Lib.hid C8
      have D9 := Lib.hid C9
      have D10 := Lib.hid C10
      clear hm hu C7 C8 C9 C10
      go_wp2_with fail
      refine (D7.out _).mono ?_
      rintro e w2 ⟨rfl, hb2⟩
      have hz2 := hb2.size; (try simp at hz2)
      have kc2w_heap_size_0 : w2.cell? ⟨w.heap.size, 0, none⟩ = some (.int .u32 b0.toNat) := (hb2.cell (p := ⟨w.heap.size, 0, none⟩) (by first | omega | (simp; done) | (simp; omega))).trans (by go_simp); have kf2w_heap_size_0 : w2.frozen? ⟨w.heap.size, 0, none⟩ = false := (hb2.frozen (p := ⟨w.heap.size, 0, none⟩) (by first | omega | (simp; done) | (simp; omega))).trans (by go_simp); have kc2w_heap_size_1 : w2.cell? ⟨w.heap.size, 1, none⟩ = some (.int .u32 b1.toNat) := (hb2.cell (p := ⟨w.heap.size, 1, none⟩) (by first | omega | (simp; done) | (simp; omega))).trans (by go_simp); have kf2w_heap_size_1 : w2.frozen? ⟨w.heap.size, 1, none⟩ = false := (hb2.frozen (p := ⟨w.heap.size, 1, none⟩) (by first | omega | (simp; done) | (simp; omega))).trans (by go_simp); have kc2w_heap_size_2 : w2.cell? ⟨w.heap.size, 2, none⟩ = some (.int .u32 b2.toNat) := (hb2.cell (p := ⟨w.heap.size, 2, none⟩) (by first | omega | (simp; done) | (simp; omega))).trans (by go_simp); have kf2w_heap_size_2 : w2.frozen? ⟨w.heap.size, 2, none⟩ = false := (hb2.frozen (p := ⟨w.heap.size, 2, none⟩) (by first | omega | (simp; done) | (simp; omega))).trans (by go_simp); have kc2w_heap_size_3 : w2.cell? ⟨w.heap.size, 3, none⟩ = some (.int .u32 b3.toNat) := (hb2.cell (p := ⟨w.heap.size, 3, none⟩) (by first | omega | (simp; done) | (simp; omega))).trans (by go_simp); have kf2w_heap_size_3 : w2.frozen? ⟨w.heap.size, 3, none⟩ = false := (hb2.frozen (p := ⟨w.heap.size, 3, none⟩) (by first | omega | (simp; done) | (simp; omega))).trans (by go_simp)
      have kc2w_heap_size___1_0 : w2.cell? ⟨w.heap.size + 1, 0, none⟩ = some (.int .u32 k0.toNat) := (hb2.cell (p := ⟨w.heap.size + 1, 0, none⟩) (by first | omega | (simp; done) | (simp; omega))).trans (by go_simp); have kf2w_heap_size___1_0 : w2.frozen? ⟨w.heap.size + 1, 0, none⟩ = false := (hb2.frozen (p := ⟨w.heap.size + 1, 0, none⟩) (by first | omega | (simp; done) | (simp; omega))).trans (by go_simp); have kc2w_heap_size___1_1 : w2.cell? ⟨w.heap.size + 1, 1, none⟩ = some (.int .u32 k1.toNat) := (hb2.cell (p := ⟨w.heap.size + 1, 1, none⟩) (by first | omega | (simp; done) | (simp; omega))).trans (by go_simp); have kf2w_heap_size___1_1 : w2.frozen? ⟨w.heap.size + 1, 1, none⟩ = false := (hb2.frozen (p := ⟨w.heap.size + 1, 1, none⟩) (by first | omega | (simp; done) | (simp; omega))).trans (by go_simp)
      go_wp2_with fail
      refine (D8.out _).mono ?_
      rintro e w3 ⟨rfl, hb3⟩
      have hz3 := hb3.size; (try simp at hz3)
      have kc3w_heap_size_0 : w3.cell? ⟨w.heap.size, 0, none⟩ = some (.int .u32 b0.toNat) := (hb3.cell (p := ⟨w.heap.size, 0, none⟩) (by first | omega | (simp; done) | (simp; omega))).trans (by go_simp); have kf3w_heap_size_0 : w3.frozen? ⟨w.heap.size, 0, none⟩ = false := (hb3.frozen (p := ⟨w.heap.size, 0, none⟩) (by first | omega | (simp; done) | (simp; omega))).trans (by go_simp); have kc3w_heap_size_1 : w3.cell? ⟨w.heap.size, 1, none⟩ = some (.int .u32 b1.toNat) := (hb3.cell (p := ⟨w.heap.size, 1, none⟩) (by first | omega | (simp; done) | (simp; omega))).trans (by go_simp); have kf3w_heap_size_1 : w3.frozen? ⟨w.heap.size, 1, none⟩ = false := (hb3.frozen (p := ⟨w.heap.size, 1, none⟩) (by first | omega | (simp; done) | (simp; omega))).trans (by go_simp); have kc3w_heap_size_2 : w3.cell? ⟨w.heap.size, 2, none⟩ = some (.int .u32 b2.toNat) := (hb3.cell (p := ⟨w.heap.size, 2, none⟩) (by first | omega | (simp; done) | (simp; omega))).trans (by go_simp); have kf3w_heap_size_2 : w3.frozen? ⟨w.heap.size, 2, none⟩ = false := (hb3.frozen (p := ⟨w.heap.size, 2, none⟩) (by first | omega | (simp; done) | (simp; omega))).trans (by go_simp); have kc3w_heap_size_3 : w3.cell? ⟨w.heap.size, 3, none⟩ = some (.int .u32 b3.toNat) := (hb3.cell (p := ⟨w.heap.size, 3, none⟩) (by first | omega | (simp; done) | (simp; omega))).trans (by go_simp); have kf3w_heap_size_3 : w3.frozen? ⟨w.heap.size, 3, none⟩ = false := (hb3.frozen (p := ⟨w.heap.size, 3, none⟩) (by first | omega | (simp; done) | (simp; omega))).trans (by go_simp)
      have kc3w_heap_size___1_0 : w3.cell? ⟨w.heap.size + 1, 0, none⟩ = some (.int .u32 k0.toNat) := (hb3.cell (p := ⟨w.heap.size + 1, 0, none⟩) (by first | omega | (simp; done) | (simp; omega))).trans (by go_simp); have kf3w_heap_size___1_0 : w3.frozen? ⟨w.heap.size + 1, 0, none⟩ = false := (hb3.frozen (p := ⟨w.heap.size + 1, 0, none⟩) (by first | omega | (simp; done) | (simp; omega))).trans (by go_simp); have kc3w_heap_size___1_1 : w3.cell? ⟨w.heap.size + 1, 1, none⟩ = some (.int .u32 k1.toNat) := (hb3.cell (p := ⟨w.heap.size + 1, 1, none⟩) (by first | omega | (simp; done) | (simp; omega))).trans (by go_simp); have kf3w_heap_size___1_1 : w3.frozen? ⟨w.heap.size + 1, 1, none⟩ = false := (hb3.frozen (p := ⟨w.heap.size + 1, 1, none⟩) (by first | omega | (simp; done) | (simp; omega))).trans (by go_simp)
      have kc3w2_heap_size_0 : w3.cell? ⟨w2.heap.size, 0, none⟩ = some (.int .u32 m0.toNat) := (hb3.cell (p := ⟨w2.heap.size, 0, none⟩) (by first | omega | (simp; done) | (simp; omega))).trans (by go_simp); have kf3w2_heap_size_0 : w3.frozen? ⟨w2.heap.size, 0, none⟩ = false := (hb3.frozen (p := ⟨w2.heap.size, 0, none⟩) (by first | omega | (simp; done) | (simp; omega))).trans (by go_simp); have kc3w2_heap_size_1 : w3.cell? ⟨w2.heap.size, 1, none⟩ = some (.int .u32 m1.toNat) := (hb3.cell (p := ⟨w2.heap.size, 1, none⟩) (by first | omega | (simp; done) | (simp; omega))).trans (by go_simp); have kf3w2_heap_size_1 : w3.frozen? ⟨w2.heap.size, 1, none⟩ = false := (hb3.frozen (p := ⟨w2.heap.size, 1, none⟩) (by first | omega | (simp; done) | (simp; omega))).trans (by go_simp); have kc3w2_heap_size_2 : w3.cell? ⟨w2.heap.size, 2, none⟩ = some (.int .u32 m2.toNat) := (hb3.cell (p := ⟨w2.heap.size, 2, none⟩) (by first | omega | (simp; done) | (simp; omega))).trans (by go_simp); have kf3w2_heap_size_2 : w3.frozen? ⟨w2.heap.size, 2, none⟩ = false := (hb3.frozen (p := ⟨w2.heap.size, 2, none⟩) (by first | omega | (simp; done) | (simp; omega))).trans (by go_simp); have kc3w2_heap_size_3 : w3.cell? ⟨w2.heap.size, 3, none⟩ = some (.int .u32 m3.toNat) := (hb3.cell (p := ⟨w2.heap.size, 3, none⟩) (by first | omega | (simp; done) | (simp; omega))).trans (by go_simp); have kf3w2_heap_size_3 : w3.frozen? ⟨w2.heap.size, 3, none⟩ = false := (hb3.frozen (p := ⟨w2.heap.size, 3, none⟩) (by first | omega | (simp; done) | (simp; omega))).trans (by go_simp)
      have hbw : Below w.heap.size w (w3.alloc (.cells #[.int .u32 u0.toNat, .int .u32 u1.toNat, .int .u32 u2.toNat, .int .u32 u3.toNat] 24)) := by (repeat' (first | (with_reducible exact Below.refl _ _) | (with_reducible assumption) | (with_reducible refine Below.alloc ?_ ?_ _) | (with_reducible refine Below.drew ?_) | (with_reducible refine below_drewN ?_ _) | (with_reducible refine Below.setCell ?_ ?_ _) | (with_reducible refine Below.trans ?_ (Below.mono (by assumption) ?_)) | go_size))
      have HW := Lib.hid hbw
      clear hbw hb2 hb3 D7 D8
      go_wp2_with fail
      refine wp_region_held_drew (S := (fun w' => ((w'.cell? ⟨w.heap.size, 0, none⟩ = some (.int .u32 b0.toNat) ∧ w'.cell? ⟨w.heap.size, 1, none⟩ = some (.int .u32 b1.toNat) ∧ w'.cell? ⟨w.heap.size, 2, none⟩ = some (.int .u32 b2.toNat) ∧ w'.cell? ⟨w.heap.size, 3, none⟩ = some (.int .u32 b3.toNat)) ∧ (w'.cell? ⟨w.heap.size + 1, 0, none⟩ = some (.int .u32 k0.toNat) ∧ w'.cell? ⟨w.heap.size + 1, 1, none⟩ = some (.int .u32 k1.toNat)) ∧ (w'.cell? ⟨w2.heap.size, 0, none⟩ = some (.int .u32 m0.toNat) ∧ w'.cell? ⟨w2.heap.size, 1, none⟩ = some (.int .u32 m1.toNat) ∧ w'.cell? ⟨w2.heap.size, 2, none⟩ = some (.int .u32 m2.toNat) ∧ w'.cell? ⟨w2.heap.size, 3, none⟩ = some (.int .u32 m3.toNat)) ∧ (w'.cell? ⟨w3.heap.size, 0, none⟩ = some (.int .u32 u0.toNat) ∧ w'.cell? ⟨w3.heap.size, 1, none⟩ = some (.int .u32 u1.toNat) ∧ w'.cell? ⟨w3.heap.size, 2, none⟩ = some (.int .u32 u2.toNat) ∧ w'.cell? ⟨w3.heap.size, 3, none⟩ = some (.int .u32 u3.toNat))))) (by kernel_rfl) (by (try dsimp only); go_keep) (fun hHeld => ?_)
      first
        | (refine wpAnyH_take (i := 0) (v := ?_) (by (simp only [List.getElem?_toArray, List.getElem?_cons_zero, List.getElem?_cons_succ]; rfl)) (by kernel_rfl) (by kernel_rfl) (by kernel_rfl) (by (intro _ _ _ h; exact h)) (Or.inl ⟨by rfl, ?_⟩) (by assumption) ?_; rotate_left; intro w hSw; (try dsimp only at hSw); go_simp; (try with_reducible rfl))
        | (refine wpAnyH_take (i := 0) (v := undef) (by (simp only [List.getElem?_toArray, List.getElem?_cons_zero, List.getElem?_cons_succ]; rfl)) (by kernel_rfl) (by kernel_rfl) (by kernel_rfl) (by (intro _ _ _ h; exact h)) (Or.inr ⟨by rfl, rfl⟩) (by assumption) ?_)
      (try simp only [Act.put, List.setIfInBounds_toArray, List.set_cons_zero, List.set_cons_succ])
      first
        | (refine wpAnyH_take (i := 1) (v := ?_) (by (simp only [List.getElem?_toArray, List.getElem?_cons_zero, List.getElem?_cons_succ]; rfl)) (by kernel_rfl) (by kernel_rfl) (by kernel_rfl) (by (intro _ _ _ h; exact h)) (Or.inl ⟨by rfl, ?_⟩) (by assumption) ?_; rotate_left; intro w hSw; (try dsimp only at hSw); go_simp; (try with_reducible rfl))
        | (refine wpAnyH_take (i := 1) (v := undef) (by (simp only [List.getElem?_toArray, List.getElem?_cons_zero, List.getElem?_cons_succ]; rfl)) (by kernel_rfl) (by kernel_rfl) (by kernel_rfl) (by (intro _ _ _ h; exact h)) (Or.inr ⟨by rfl, rfl⟩) (by assumption) ?_)
      (try simp only [Act.put, List.setIfInBounds_toArray, List.set_cons_zero, List.set_cons_succ])
      first
        | (refine wpAnyH_take (i := 2) (v := ?_) (by (simp only [List.getElem?_toArray, List.getElem?_cons_zero, List.getElem?_cons_succ]; rfl)) (by kernel_rfl) (by kernel_rfl) (by kernel_rfl) (by (intro _ _ _ h; exact h)) (Or.inl ⟨by rfl, ?_⟩) (by assumption) ?_; rotate_left; intro w hSw; (try dsimp only at hSw); go_simp; (try with_reducible rfl))
        | (refine wpAnyH_take (i := 2) (v := undef) (by (simp only [List.getElem?_toArray, List.getElem?_cons_zero, List.getElem?_cons_succ]; rfl)) (by kernel_rfl) (by kernel_rfl) (by kernel_rfl) (by (intro _ _ _ h; exact h)) (Or.inr ⟨by rfl, rfl⟩) (by assumption) ?_)
      (try simp only [Act.put, List.setIfInBounds_toArray, List.set_cons_zero, List.set_cons_succ])
      first
        | (refine wpAnyH_take (i := 3) (v := ?_) (by (simp only [List.getElem?_toArray, List.getElem?_cons_zero, List.getElem?_cons_succ]; rfl)) (by kernel_rfl) (by kernel_rfl) (by kernel_rfl) (by (intro _ _ _ h; exact h)) (Or.inl ⟨by rfl, ?_⟩) (by assumption) ?_; rotate_left; intro w hSw; (try dsimp only at hSw); go_simp; (try with_reducible rfl))
        | (refine wpAnyH_take (i := 3) (v := undef) (by (simp only [List.getElem?_toArray, List.getElem?_cons_zero, List.getElem?_cons_succ]; rfl)) (by kernel_rfl) (by kernel_rfl) (by kernel_rfl) (by (intro _ _ _ h; exact h)) (Or.inr ⟨by rfl, rfl⟩) (by assumption) ?_)
      (try simp only [Act.put, List.setIfInBounds_toArray, List.set_cons_zero, List.set_cons_succ])
      first
        | (refine wpAnyH_take (i := 4) (v := ?_) (by (simp only [List.getElem?_toArray, List.getElem?_cons_zero, List.getElem?_cons_succ]; rfl)) (by kernel_rfl) (by kernel_rfl) (by kernel_rfl) (by (intro _ _ _ h; exact h)) (Or.inl ⟨by rfl, ?_⟩) (by assumption) ?_; rotate_left; intro w hSw; (try dsimp only at hSw); go_simp; (try with_reducible rfl))
        | (refine wpAnyH_take (i := 4) (v := undef) (by (simp only [List.getElem?_toArray, List.getElem?_cons_zero, List.getElem?_cons_succ]; rfl)) (by kernel_rfl) (by kernel_rfl) (by kernel_rfl) (by (intro _ _ _ h; exact h)) (Or.inr ⟨by rfl, rfl⟩) (by assumption) ?_)
      (try simp only [Act.put, List.setIfInBounds_toArray, List.set_cons_zero, List.set_cons_succ])
      first
        | (refine wpAnyH_take (i := 5) (v := ?_) (by (simp only [List.getElem?_toArray, List.getElem?_cons_zero, List.getElem?_cons_succ]; rfl)) (by kernel_rfl) (by kernel_rfl) (by kernel_rfl) (by (intro _ _ _ h; exact h)) (Or.inl ⟨by rfl, ?_⟩) (by assumption) ?_; rotate_left; intro w hSw; (try dsimp only at hSw); go_simp; (try with_reducible rfl))
        | (refine wpAnyH_take (i := 5) (v := undef) (by (simp only [List.getElem?_toArray, List.getElem?_cons_zero, List.getElem?_cons_succ]; rfl)) (by kernel_rfl) (by kernel_rfl) (by kernel_rfl) (by (intro _ _ _ h; exact h)) (Or.inr ⟨by rfl, rfl⟩) (by assumption) ?_)
      (try simp only [Act.put, List.setIfInBounds_toArray, List.set_cons_zero, List.set_cons_succ])
      first
        | (refine wpAnyH_take (i := 6) (v := ?_) (by (simp only [List.getElem?_toArray, List.getElem?_cons_zero, List.getElem?_cons_succ]; rfl)) (by kernel_rfl) (by kernel_rfl) (by kernel_rfl) (by (intro _ _ _ h; exact h)) (Or.inl ⟨by rfl, ?_⟩) (by assumption) ?_; rotate_left; intro w hSw; (try dsimp only at hSw); go_simp; (try with_reducible rfl))
        | (refine wpAnyH_take (i := 6) (v := undef) (by (simp only [List.getElem?_toArray, List.getElem?_cons_zero, List.getElem?_cons_succ]; rfl)) (by kernel_rfl) (by kernel_rfl) (by kernel_rfl) (by (intro _ _ _ h; exact h)) (Or.inr ⟨by rfl, rfl⟩) (by assumption) ?_)
      (try simp only [Act.put, List.setIfInBounds_toArray, List.set_cons_zero, List.set_cons_succ])
      first
        | (refine wpAnyH_take (i := 7) (v := ?_) (by (simp only [List.getElem?_toArray, List.getElem?_cons_zero, List.getElem?_cons_succ]; rfl)) (by kernel_rfl) (by kernel_rfl) (by kernel_rfl) (by (intro _ _ _ h; exact h)) (Or.inl ⟨by rfl, ?_⟩) (by assumption) ?_; rotate_left; intro w hSw; (try dsimp only at hSw); go_simp; (try with_reducible rfl))
        | (refine wpAnyH_take (i := 7) (v := undef) (by (simp only [List.getElem?_toArray, List.getElem?_cons_zero, List.getElem?_cons_succ]; rfl)) (by kernel_rfl) (by kernel_rfl) (by kernel_rfl) (by (intro _ _ _ h; exact h)) (Or.inr ⟨by rfl, rfl⟩) (by assumption) ?_)
      (try simp only [Act.put, List.setIfInBounds_toArray, List.set_cons_zero, List.set_cons_succ])
      first
        | (refine wpAnyH_take (i := 8) (v := ?_) (by (simp only [List.getElem?_toArray, List.getElem?_cons_zero, List.getElem?_cons_succ]; rfl)) (by kernel_rfl) (by kernel_rfl) (by kernel_rfl) (by (intro _ _ _ h; exact h)) (Or.inl ⟨by rfl, ?_⟩) (by assumption) ?_; rotate_left; intro w hSw; (try dsimp only at hSw); go_simp; (try with_reducible rfl))
        | (refine wpAnyH_take (i := 8) (v := undef) (by (simp only [List.getElem?_toArray, List.getElem?_cons_zero, List.getElem?_cons_succ]; rfl)) (by kernel_rfl) (by kernel_rfl) (by kernel_rfl) (by (intro _ _ _ h; exact h)) (Or.inr ⟨by rfl, rfl⟩) (by assumption) ?_)
      (try simp only [Act.put, List.setIfInBounds_toArray, List.set_cons_zero, List.set_cons_succ])
      first
        | (refine wpAnyH_take (i := 9) (v := ?_) (by (simp only [List.getElem?_toArray, List.getElem?_cons_zero, List.getElem?_cons_succ]; rfl)) (by kernel_rfl) (by kernel_rfl) (by kernel_rfl) (by (intro _ _ _ h; exact h)) (Or.inl ⟨by rfl, ?_⟩) (by assumption) ?_; rotate_left; intro w hSw; (try dsimp only at hSw); go_simp; (try with_reducible rfl))
        | (refine wpAnyH_take (i := 9) (v := undef) (by (simp only [List.getElem?_toArray, List.getElem?_cons_zero, List.getElem?_cons_succ]; rfl)) (by kernel_rfl) (by kernel_rfl) (by kernel_rfl) (by (intro _ _ _ h; exact h)) (Or.inr ⟨by rfl, rfl⟩) (by assumption) ?_)
      (try simp only [Act.put, List.setIfInBounds_toArray, List.set_cons_zero, List.set_cons_succ])
      first
        | (refine wpAnyH_take (i := 10) (v := ?_) (by (simp only [List.getElem?_toArray, List.getElem?_cons_zero, List.getElem?_cons_succ]; rfl)) (by kernel_rfl) (by kernel_rfl) (by kernel_rfl) (by (intro _ _ _ h; exact h)) (Or.inl ⟨by rfl, ?_⟩) (by assumption) ?_; rotate_left; intro w hSw; (try dsimp only at hSw); go_simp; (try with_reducible rfl))
        | (refine wpAnyH_take (i := 10) (v := undef) (by (simp only [List.getElem?_toArray, List.getElem?_cons_zero, List.getElem?_cons_succ]; rfl)) (by kernel_rfl) (by kernel_rfl) (by kernel_rfl) (by (intro _ _ _ h; exact h)) (Or.inr ⟨by rfl, rfl⟩) (by assumption) ?_)
      (try simp only [Act.put, List.setIfInBounds_toArray, List.set_cons_zero, List.set_cons_succ])
      first
        | (refine wpAnyH_take (i := 11) (v := ?_) (by (simp only [List.getElem?_toArray, List.getElem?_cons_zero, List.getElem?_cons_succ]; rfl)) (by kernel_rfl) (by kernel_rfl) (by kernel_rfl) (by (intro _ _ _ h; exact h)) (Or.inl ⟨by rfl, ?_⟩) (by assumption) ?_; rotate_left; intro w hSw; (try dsimp only at hSw); go_simp; (try with_reducible rfl))
        | (refine wpAnyH_take (i := 11) (v := undef) (by (simp only [List.getElem?_toArray, List.getElem?_cons_zero, List.getElem?_cons_succ]; rfl)) (by kernel_rfl) (by kernel_rfl) (by kernel_rfl) (by (intro _ _ _ h; exact h)) (Or.inr ⟨by rfl, rfl⟩) (by assumption) ?_)
      (try simp only [Act.put, List.setIfInBounds_toArray, List.set_cons_zero, List.set_cons_succ])
      refine wpAnyH_ready (rs := [12]) (by kernel_rfl) (by simp) (AllReadyH.cons (by (simp only [List.getElem?_toArray, List.getElem?_cons_zero, List.getElem?_cons_succ]; rfl)) (fun K hK => ?_) AllReadyH.nil)
      go_simp
      refine (D9.out _).mono ?_; rintro e w' ⟨rfl, hb⟩; have hk := keep_cell hb; have hz := hb.size; (try simp at hz)
      go_wp2_with fail
      refine hK.out _ _ ?_ (fun hHeld => ?_)
      · (try dsimp only)
        go_keep
      clear hK K
      (try simp only [Act.put, List.setIfInBounds_toArray, List.set_cons_zero, List.set_cons_succ])
      first
        | (refine wpAnyH_take (i := 13) (v := ?_) (by (simp only [List.getElem?_toArray, List.getElem?_cons_zero, List.getElem?_cons_succ]; rfl)) (by kernel_rfl) (by kernel_rfl) (by kernel_rfl) (by (intro _ _ _ h; exact h)) (Or.inl ⟨by rfl, ?_⟩) (by assumption) ?_; rotate_left; intro w hSw; (try dsimp only at hSw); go_simp; (try with_reducible rfl))
        | (refine wpAnyH_take (i := 13) (v := undef) (by (simp only [List.getElem?_toArray, List.getElem?_cons_zero, List.getElem?_cons_succ]; rfl)) (by kernel_rfl) (by kernel_rfl) (by kernel_rfl) (by (intro _ _ _ h; exact h)) (Or.inr ⟨by rfl, rfl⟩) (by assumption) ?_)
      (try simp only [Act.put, List.setIfInBounds_toArray, List.set_cons_zero, List.set_cons_succ])
      first
        | (refine wpAnyH_take (i := 14) (v := ?_) (by (simp only [List.getElem?_toArray, List.getElem?_cons_zero, List.getElem?_cons_succ]; rfl)) (by kernel_rfl) (by kernel_rfl) (by kernel_rfl) (by (intro _ _ _ h; exact h)) (Or.inl ⟨by rfl, ?_⟩) (by assumption) ?_; rotate_left; intro w hSw; (try dsimp only at hSw); go_simp; (try with_reducible rfl))
        | (refine wpAnyH_take (i := 14) (v := undef) (by (simp only [List.getElem?_toArray, List.getElem?_cons_zero, List.getElem?_cons_succ]; rfl)) (by kernel_rfl) (by kernel_rfl) (by kernel_rfl) (by (intro _ _ _ h; exact h)) (Or.inr ⟨by rfl, rfl⟩) (by assumption) ?_)
      (try simp only [Act.put, List.setIfInBounds_toArray, List.set_cons_zero, List.set_cons_succ])
      first
        | (refine wpAnyH_take (i := 15) (v := ?_) (by (simp only [List.getElem?_toArray, List.getElem?_cons_zero, List.getElem?_cons_succ]; rfl)) (by kernel_rfl) (by kernel_rfl) (by kernel_rfl) (by (intro _ _ _ h; exact h)) (Or.inl ⟨by rfl, ?_⟩) (by assumption) ?_; rotate_left; intro w hSw; (try dsimp only at hSw); go_simp; (try with_reducible rfl))
        | (refine wpAnyH_take (i := 15) (v := undef) (by (simp only [List.getElem?_toArray, List.getElem?_cons_zero, List.getElem?_cons_succ]; rfl)) (by kernel_rfl) (by kernel_rfl) (by kernel_rfl) (by (intro _ _ _ h; exact h)) (Or.inr ⟨by rfl, rfl⟩) (by assumption) ?_)
      (try simp only [Act.put, List.setIfInBounds_toArray, List.set_cons_zero, List.set_cons_succ])
      first
        | (refine wpAnyH_take (i := 16) (v := ?_) (by (simp only [List.getElem?_toArray, List.getElem?_cons_zero, List.getElem?_cons_succ]; rfl)) (by kernel_rfl) (by kernel_rfl) (by kernel_rfl) (by (intro _ _ _ h; exact h)) (Or.inl ⟨by rfl, ?_⟩) (by assumption) ?_; rotate_left; intro w hSw; (try dsimp only at hSw); go_simp; (try with_reducible rfl))
        | (refine wpAnyH_take (i := 16) (v := undef) (by (simp only [List.getElem?_toArray, List.getElem?_cons_zero, List.getElem?_cons_succ]; rfl)) (by kernel_rfl) (by kernel_rfl) (by kernel_rfl) (by (intro _ _ _ h; exact h)) (Or.inr ⟨by rfl, rfl⟩) (by assumption) ?_)
      (try simp only [Act.put, List.setIfInBounds_toArray, List.set_cons_zero, List.set_cons_succ])
      first
        | (refine wpAnyH_take (i := 17) (v := ?_) (by (simp only [List.getElem?_toArray, List.getElem?_cons_zero, List.getElem?_cons_succ]; rfl)) (by kernel_rfl) (by kernel_rfl) (by kernel_rfl) (by (intro _ _ _ h; exact h)) (Or.inl ⟨by rfl, ?_⟩) (by assumption) ?_; rotate_left; intro w hSw; (try dsimp only at hSw); go_simp; (try with_reducible rfl))
        | (refine wpAnyH_take (i := 17) (v := undef) (by (simp only [List.getElem?_toArray, List.getElem?_cons_zero, List.getElem?_cons_succ]; rfl)) (by kernel_rfl) (by kernel_rfl) (by kernel_rfl) (by (intro _ _ _ h; exact h)) (Or.inr ⟨by rfl, rfl⟩) (by assumption) ?_)
      (try simp only [Act.put, List.setIfInBounds_toArray, List.set_cons_zero, List.set_cons_succ])
      first
        | (refine wpAnyH_take (i := 18) (v := ?_) (by (simp only [List.getElem?_toArray, List.getElem?_cons_zero, List.getElem?_cons_succ]; rfl)) (by kernel_rfl) (by kernel_rfl) (by kernel_rfl) (by (intro _ _ _ h; exact h)) (Or.inl ⟨by rfl, ?_⟩) (by assumption) ?_; rotate_left; intro w hSw; (try dsimp only at hSw); go_simp; (try with_reducible rfl))
        | (refine wpAnyH_take (i := 18) (v := undef) (by (simp only [List.getElem?_toArray, List.getElem?_cons_zero, List.getElem?_cons_succ]; rfl)) (by kernel_rfl) (by kernel_rfl) (by kernel_rfl) (by (intro _ _ _ h; exact h)) (Or.inr ⟨by rfl, rfl⟩) (by assumption) ?_)
      (try simp only [Act.put, List.setIfInBounds_toArray, List.set_cons_zero, List.set_cons_succ])
      first
        | (refine wpAnyH_take (i := 20) (v := ?_) (by (simp only [List.getElem?_toArray, List.getElem?_cons_zero, List.getElem?_cons_succ]; rfl)) (by kernel_rfl) (by kernel_rfl) (by kernel_rfl) (by (intro _ _ _ h; exact h)) (Or.inl ⟨by rfl, ?_⟩) (by assumption) ?_; rotate_left; intro w hSw; (try dsimp only at hSw); go_simp; (try with_reducible rfl))
        | (refine wpAnyH_take (i := 20) (v := undef) (by (simp only [List.getElem?_toArray, List.getElem?_cons_zero, List.getElem?_cons_succ]; rfl)) (by kernel_rfl) (by kernel_rfl) (by kernel_rfl) (by (intro _ _ _ h; exact h)) (Or.inr ⟨by rfl, rfl⟩) (by assumption) ?_)
      (try simp only [Act.put, List.setIfInBounds_toArray, List.set_cons_zero, List.set_cons_succ])
      refine wpAnyH_ready (rs := [19]) (by kernel_rfl) (by simp) (AllReadyH.cons (by (simp only [List.getElem?_toArray, List.getElem?_cons_zero, List.getElem?_cons_succ]; rfl)) (fun K hK => ?_) AllReadyH.nil)
      go_simp
      refine (D10.out _).mono ?_; rintro e w' ⟨rfl, hb⟩; have hk := keep_cell hb; have hz := hb.size; (try simp at hz)
      go_wp2_with fail
      refine hK.out _ _ ?_ (fun hHeld => ?_)
      · (try dsimp only)
        go_keep
      clear hK K
      (try simp only [Act.put, List.setIfInBounds_toArray, List.set_cons_zero, List.set_cons_succ])
      first
        | (refine wpAnyH_take (i := 21) (v := ?_) (by (simp only [List.getElem?_toArray, List.getElem?_cons_zero, List.getElem?_cons_succ]; rfl)) (by kernel_rfl) (by kernel_rfl) (by kernel_rfl) (by (intro _ _ _ h; exact h)) (Or.inl ⟨by rfl, ?_⟩) (by assumption) ?_; rotate_left; intro w hSw; (try dsimp only at hSw); go_simp; (try with_reducible rfl))
        | (refine wpAnyH_take (i := 21) (v := undef) (by (simp only [List.getElem?_toArray, List.getElem?_cons_zero, List.getElem?_cons_succ]; rfl)) (by kernel_rfl) (by kernel_rfl) (by kernel_rfl) (by (intro _ _ _ h; exact h)) (Or.inr ⟨by rfl, rfl⟩) (by assumption) ?_)
      (try simp only [Act.put, List.setIfInBounds_toArray, List.set_cons_zero, List.set_cons_succ])
      first
        | (refine wpAnyH_take (i := 22) (v := ?_) (by (simp only [List.getElem?_toArray, List.getElem?_cons_zero, List.getElem?_cons_succ]; rfl)) (by kernel_rfl) (by kernel_rfl) (by kernel_rfl) (by (intro _ _ _ h; exact h)) (Or.inl ⟨by rfl, ?_⟩) (by assumption) ?_; rotate_left; intro w hSw; (try dsimp only at hSw); go_simp; (try with_reducible rfl))
        | (refine wpAnyH_take (i := 22) (v := undef) (by (simp only [List.getElem?_toArray, List.getElem?_cons_zero, List.getElem?_cons_succ]; rfl)) (by kernel_rfl) (by kernel_rfl) (by kernel_rfl) (by (intro _ _ _ h; exact h)) (Or.inr ⟨by rfl, rfl⟩) (by assumption) ?_)
      (try simp only [Act.put, List.setIfInBounds_toArray, List.set_cons_zero, List.set_cons_succ])
      first
        | (refine wpAnyH_take (i := 23) (v := ?_) (by (simp only [List.getElem?_toArray, List.getElem?_cons_zero, List.getElem?_cons_succ]; rfl)) (by kernel_rfl) (by kernel_rfl) (by kernel_rfl) (by (intro _ _ _ h; exact h)) (Or.inl ⟨by rfl, ?_⟩) (by assumption) ?_; rotate_left; intro w hSw; (try dsimp only at hSw); go_simp; (try with_reducible rfl))
        | (refine wpAnyH_take (i := 23) (v := undef) (by (simp only [List.getElem?_toArray, List.getElem?_cons_zero, List.getElem?_cons_succ]; rfl)) (by kernel_rfl) (by kernel_rfl) (by kernel_rfl) (by (intro _ _ _ h; exact h)) (Or.inr ⟨by rfl, rfl⟩) (by assumption) ?_)
      (try simp only [Act.put, List.setIfInBounds_toArray, List.set_cons_zero, List.set_cons_succ])
      refine wpAnyH_done (by kernel_rfl) ?_ _
      go_wp2
      go_ret
      exact ⟨rfl, HW.out.trans (Below.mono (B := w3.heap.size + 1) (by (repeat' (first | (with_reducible exact Below.refl _ _) | (with_reducible assumption) | (with_reducible refine Below.alloc ?_ ?_ _) | (with_reducible refine Below.drew ?_) | (with_reducible refine below_drewN ?_ _) | (with_reducible refine Below.setCell ?_ ?_ _) | (with_reducible refine Below.trans ?_ (Below.mono (by assumption) ?_)) | go_size))) (by omega))⟩
end Go.Proofs.Ytpkfgpbneogijaa
