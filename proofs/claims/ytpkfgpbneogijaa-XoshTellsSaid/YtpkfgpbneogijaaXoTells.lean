/- XoshTells, walked. -/
import Derived.Test.YtpkfgpbneogijaaXoE
import Derived.Test.YtpkfgpbneogijaaCat
import Derived.Maps.AppendAt
import Derived.Deep.CutRange
namespace Go.Proofs.Ytpkfgpbneogijaa
open Go Go.RowKit

/-- A row's block is none of these. -/
def Apart (v : Value) (b : Nat) : Prop := v.ownBlock ≠ some b
theorem apart_at {H : Nat} {v v' : Value} {b : Nat} (h : Apart v b) (hat : v'.ownBlock = v.ownBlock ∨ v'.ownBlock = some H) (hb : b < H) : Apart v' b := by
  unfold Apart at *
  rcases hat with e | e
  · rw [e]; exact h
  · rw [e]; intro k; cases k; omega
def Away (u v : Value) : Prop := ∀ b, u.ownBlock = some b → v.ownBlock ≠ some b
theorem away_at {H : Nat} {w : World} {u v u' : Value} {lo size n : Nat} {e : TypeId} {xs : List Value} (h : Away u v) (hat : u'.ownBlock = u.ownBlock ∨ u'.ownBlock = some H) (ho : w.ownsRow lo e size v n xs) (hH : w.heap.size ≤ H) : Away u' v := by
  intro b hb hv
  rcases hat with k | k
  · exact h b (k ▸ hb) hv
  · rw [k] at hb; cases hb; have := (ho.lt _ hv).2; omega
theorem owns_apart {w w' : World} {lo size n b : Nat} {e : TypeId} {v : Value} {xs : List Value} (h : w.ownsRow lo e size v n xs) (hg : w.grownBy w' (some b)) (ha : Apart v b) : w'.ownsRow lo e size v n xs :=
  h.kept hg (.inr ha)
theorem away_symm {u v : Value} (h : Away u v) : Away v u := fun b hb hu => h b hu hb
theorem owns_away {w w' : World} {lo size n : Nat} {e : TypeId} {u v : Value} {xs : List Value} (h : w.ownsRow lo e size v n xs) (hg : w.grownBy w' u.ownBlock) (ha : Away u v) : w'.ownsRow lo e size v n xs :=
  h.kept hg (by
    cases hv : v.ownBlock with
    | none => exact .inl rfl
    | some k => exact .inr (fun e => ha k e.symm hv))
theorem Boxes.apart {w w' : World} {bs : List (Nat × List Value)} {u : Value} (h : Boxes w bs) (hg : w.grownBy w' u.ownBlock) (hn : ∀ p, p ∈ bs → Apart u p.1) : Boxes w' bs :=
  h.grown hg (fun p hp e => hn p hp e.symm)

set_option maxRecDepth 100000 in
set_option maxHeartbeats 4000000 in
theorem xoshTells_zero (s0 s1 s2 s3 : BitVec 64) (hs : (⟨s0, s1, s2, s3⟩ : St) = Xo.zero) (m : Int) (w : World) :
    Calls Try.prog 7 #[.agg #[.int .u64 s0.toNat, .int .u64 s1.toNat, .int .u64 s2.toNat, .int .u64 s3.toNat], .int .i64 m] w fun e w' => e = .returned (.bool true) ∧ Below w.heap.size w w' := by
  obtain ⟨iu, hiu, hiu0, hiu1, hiu2⟩ := info_parts Try.infoU64
  obtain ⟨ib, hib, hib0, hib1, hib2⟩ := info_parts Try.infoBool
  have q0 := eq4_zero ⟨s0, s1, s2, s3⟩
  simp only at q0
  have q : eq4 s0.toNat s1.toNat s2.toNat s3.toNat 0 0 0 0 = true := by rw [q0]; simpa using hs
  obtain ⟨wd, hwd⟩ : ∃ wd, Xo.word ⟨s0, s1, s2, s3⟩ = wd := ⟨_, rfl⟩
  obtain ⟨x, hx⟩ : ∃ x, Xo.step ⟨s0, s1, s2, s3⟩ = x := ⟨_, rfl⟩
  obtain ⟨x0, x1, x2, x3⟩ := x
  have C1 : ∀ w, Calls Try.prog 25 #[.agg #[.int .u64 s0.toNat, .int .u64 s1.toNat, .int .u64 s2.toNat, .int .u64 s3.toNat]] w fun e w' => e = .returned (.int .u64 wd.toNat) ∧ Below w.heap.size w w' := by
    intro w; have h := xword_c s0 s1 s2 s3 w; rw [hwd] at h; exact h
  have C2 : ∀ w, Calls Try.prog 26 #[.agg #[.int .u64 s0.toNat, .int .u64 s1.toNat, .int .u64 s2.toNat, .int .u64 s3.toNat]] w fun e w' => e = .returned (.int .u64 wd.toNat) ∧ Below w.heap.size w w' := by
    intro w; have h := rxword_c s0 s1 s2 s3 w; rw [hwd] at h; exact h
  have C3 : ∀ w, Calls Try.prog 27 #[.agg #[.int .u64 s0.toNat, .int .u64 s1.toNat, .int .u64 s2.toNat, .int .u64 s3.toNat]] w fun e w' => e = .returned (.agg #[.int .u64 x0.toNat, .int .u64 x1.toNat, .int .u64 x2.toNat, .int .u64 x3.toNat]) ∧ Below w.heap.size w w' := by
    intro w; have h := xstep_c s0 s1 s2 s3 w; rw [hx] at h; exact h
  have C4 : ∀ w, Calls Try.prog 28 #[.agg #[.int .u64 s0.toNat, .int .u64 s1.toNat, .int .u64 s2.toNat, .int .u64 s3.toNat]] w fun e w' => e = .returned (.agg #[.int .u64 x0.toNat, .int .u64 x1.toNat, .int .u64 x2.toNat, .int .u64 x3.toNat]) ∧ Below w.heap.size w w' := by
    intro w; have h := rxstep_c s0 s1 s2 s3 w; rw [hx] at h; exact h
  have C5 : ∀ w, Calls Try.prog 29 #[.agg #[.int .u64 s0.toNat, .int .u64 s1.toNat, .int .u64 s2.toNat, .int .u64 s3.toNat]] w fun e w' => e = .returned (.bool false) ∧ Below w.heap.size w w' := by
    intro w; have h := xright_c s0 s1 s2 s3 w; rw [q] at h; exact h
  have C6 : ∀ w, Calls Try.prog 30 #[.agg #[.int .u64 s0.toNat, .int .u64 s1.toNat, .int .u64 s2.toNat, .int .u64 s3.toNat], .int .i64 m] w fun e w' => e = .returned (.tuple #[.slice none 0 0, .agg #[.int .u64 0, .int .u64 0, .int .u64 0, .int .u64 0], .int .i64 3]) ∧ Below w.heap.size w w' := by
    intro w; cases hs; exact xwords_state m w
  have D6 := Lib.hid C6
  clear C6
  have z0 : decide (0 < s0.toNat) = false := by cases hs; rfl
  have z1 : decide (0 < s1.toNat) = false := by cases hs; rfl
  have z2 : decide (0 < s2.toNat) = false := by cases hs; rfl
  have z3 : decide (0 < s3.toNat) = false := by cases hs; rfl
  have E1 := eq4_self x0.toNat x1.toNat x2.toNat x3.toNat
  have E0 := eq4_self 0 0 0 0
  have D1 := Lib.hid C1
  have D2 := Lib.hid C2
  have D3 := Lib.hid C3
  have D4 := Lib.hid C4
  have D5 := Lib.hid C5
  clear hs q0 q hwd hx C1 C2 C3 C4 C5
  go_enter Try.func7, Try.ntmps7
  go_wp2_with fail
  refine (awake07_c _).mono ?_
  rintro e w1 ⟨rfl, hb1⟩
  have hz1 := hb1.size; (try simp at hz1)
  have kc1w_heap_size_0 : w1.cell? ⟨w.heap.size, 0, none⟩ = some (.int .u64 s0.toNat) := (hb1.cell (p := ⟨w.heap.size, 0, none⟩) (by first | omega | (simp; done) | (simp; omega))).trans (by go_simp); have kf1w_heap_size_0 : w1.frozen? ⟨w.heap.size, 0, none⟩ = false := (hb1.frozen (p := ⟨w.heap.size, 0, none⟩) (by first | omega | (simp; done) | (simp; omega))).trans (by go_simp); have kc1w_heap_size_1 : w1.cell? ⟨w.heap.size, 1, none⟩ = some (.int .u64 s1.toNat) := (hb1.cell (p := ⟨w.heap.size, 1, none⟩) (by first | omega | (simp; done) | (simp; omega))).trans (by go_simp); have kf1w_heap_size_1 : w1.frozen? ⟨w.heap.size, 1, none⟩ = false := (hb1.frozen (p := ⟨w.heap.size, 1, none⟩) (by first | omega | (simp; done) | (simp; omega))).trans (by go_simp); have kc1w_heap_size_2 : w1.cell? ⟨w.heap.size, 2, none⟩ = some (.int .u64 s2.toNat) := (hb1.cell (p := ⟨w.heap.size, 2, none⟩) (by first | omega | (simp; done) | (simp; omega))).trans (by go_simp); have kf1w_heap_size_2 : w1.frozen? ⟨w.heap.size, 2, none⟩ = false := (hb1.frozen (p := ⟨w.heap.size, 2, none⟩) (by first | omega | (simp; done) | (simp; omega))).trans (by go_simp); have kc1w_heap_size_3 : w1.cell? ⟨w.heap.size, 3, none⟩ = some (.int .u64 s3.toNat) := (hb1.cell (p := ⟨w.heap.size, 3, none⟩) (by first | omega | (simp; done) | (simp; omega))).trans (by go_simp); have kf1w_heap_size_3 : w1.frozen? ⟨w.heap.size, 3, none⟩ = false := (hb1.frozen (p := ⟨w.heap.size, 3, none⟩) (by first | omega | (simp; done) | (simp; omega))).trans (by go_simp)
  have hw1 : Below w.heap.size w w1 := by (repeat' (first | (with_reducible exact Below.refl _ _) | (with_reducible assumption) | (with_reducible refine Below.alloc ?_ ?_ _) | (with_reducible refine Below.drew ?_) | (with_reducible refine below_drewN ?_ _) | (with_reducible refine Below.setCell ?_ ?_ _) | (with_reducible refine Below.trans ?_ (Below.mono (by assumption) ?_)) | go_size))
  have HW1 := Lib.hid hw1
  have hB1 : Boxes w1 [(w.heap.size, [.int .u64 s0.toNat, .int .u64 s1.toNat, .int .u64 s2.toNat, .int .u64 s3.toNat])] := (Boxes.cons (box4 ⟨by go_simp, by go_simp, by go_simp, by go_simp⟩ ⟨by go_simp, by go_simp, by go_simp, by go_simp⟩) (Boxes.nil _))
  have HB1 := Lib.hid hB1
  clear hw1 hb1 hB1
  go_upto_region 3 with fail
  go_cut [50] from 16 to 50 (fun c wx => c = .bool false ∧ Below w1.heap.size w1 wx)
  case first =>
    all_goals
      refine wp_region_held_drew (S := (fun w' => ((w'.cell? ⟨w.heap.size, 0, none⟩ = some (.int .u64 s0.toNat) ∧ w'.cell? ⟨w.heap.size, 1, none⟩ = some (.int .u64 s1.toNat) ∧ w'.cell? ⟨w.heap.size, 2, none⟩ = some (.int .u64 s2.toNat) ∧ w'.cell? ⟨w.heap.size, 3, none⟩ = some (.int .u64 s3.toNat))))) (by kernel_rfl) (by (try dsimp only); go_keep) (fun hHeld => ?_)
      first
        | (refine wpAnyH_take (i := 0) (v := ?_) (by (simp only [List.getElem?_toArray, List.getElem?_cons_zero, List.getElem?_cons_succ]; rfl)) (by kernel_rfl) (by kernel_rfl) (by kernel_rfl) (by (intro _ _ _ h; exact h)) (Or.inl ⟨by rfl, ?_⟩) (by assumption) ?_; rotate_left; intro w hSw; (try dsimp only at hSw); go_simp; (try with_reducible rfl))
        | (refine wpAnyH_take (i := 0) (v := undef) (by (simp only [List.getElem?_toArray, List.getElem?_cons_zero, List.getElem?_cons_succ]; rfl)) (by kernel_rfl) (by kernel_rfl) (by kernel_rfl) (by (intro _ _ _ h; exact h)) (Or.inr ⟨by rfl, rfl⟩) (by assumption) ?_)
      (try simp only [Act.put, List.setIfInBounds_toArray, List.set_cons_zero, List.set_cons_succ])
      first
        | (refine wpAnyH_take (i := 2) (v := ?_) (by (simp only [List.getElem?_toArray, List.getElem?_cons_zero, List.getElem?_cons_succ]; rfl)) (by kernel_rfl) (by kernel_rfl) (by kernel_rfl) (by (intro _ _ _ h; exact h)) (Or.inl ⟨by rfl, ?_⟩) (by assumption) ?_; rotate_left; intro w hSw; (try dsimp only at hSw); go_simp; (try with_reducible rfl))
        | (refine wpAnyH_take (i := 2) (v := undef) (by (simp only [List.getElem?_toArray, List.getElem?_cons_zero, List.getElem?_cons_succ]; rfl)) (by kernel_rfl) (by kernel_rfl) (by kernel_rfl) (by (intro _ _ _ h; exact h)) (Or.inr ⟨by rfl, rfl⟩) (by assumption) ?_)
      (try simp only [Act.put, List.setIfInBounds_toArray, List.set_cons_zero, List.set_cons_succ])
      refine wpAnyH_ready (rs := [1]) (by kernel_rfl) (by simp) (AllReadyH.cons (by (simp only [List.getElem?_toArray, List.getElem?_cons_zero, List.getElem?_cons_succ]; rfl)) (fun K hK => ?_) AllReadyH.nil)
      go_simp
      refine (D1.out _).mono ?_; rintro e w' ⟨rfl, hb⟩; have hk := keep_cell hb; have hz := hb.size; (try simp at hz)
      go_wp2_with fail
      refine hK.out _ _ ?_ (fun hHeld => ?_)
      · (try dsimp only)
        go_keep
      clear hK K
      (try simp only [Act.put, List.setIfInBounds_toArray, List.set_cons_zero, List.set_cons_succ])
      refine wpAnyH_ready (rs := [3]) (by kernel_rfl) (by simp) (AllReadyH.cons (by (simp only [List.getElem?_toArray, List.getElem?_cons_zero, List.getElem?_cons_succ]; rfl)) (fun K hK => ?_) AllReadyH.nil)
      go_simp
      refine (D2.out _).mono ?_; rintro e w' ⟨rfl, hb⟩; have hk := keep_cell hb; have hz := hb.size; (try simp at hz)
      go_wp2_with fail
      refine hK.out _ _ ?_ (fun hHeld => ?_)
      · (try dsimp only)
        go_keep
      clear hK K
      (try simp only [Act.put, List.setIfInBounds_toArray, List.set_cons_zero, List.set_cons_succ])
      first
        | (refine wpAnyH_take (i := 4) (v := ?_) (by (simp only [List.getElem?_toArray, List.getElem?_cons_zero, List.getElem?_cons_succ]; rfl)) (by kernel_rfl) (by kernel_rfl) (by kernel_rfl) (by (intro _ _ _ h; exact h)) (Or.inl ⟨by rfl, ?_⟩) (by assumption) ?_; rotate_left; intro w hSw; (try dsimp only at hSw); go_simp; (try with_reducible rfl))
        | (refine wpAnyH_take (i := 4) (v := undef) (by (simp only [List.getElem?_toArray, List.getElem?_cons_zero, List.getElem?_cons_succ]; rfl)) (by kernel_rfl) (by kernel_rfl) (by kernel_rfl) (by (intro _ _ _ h; exact h)) (Or.inr ⟨by rfl, rfl⟩) (by assumption) ?_)
      (try simp only [Act.put, List.setIfInBounds_toArray, List.set_cons_zero, List.set_cons_succ])
      first
        | (refine wpAnyH_take (i := 5) (v := ?_) (by (simp only [List.getElem?_toArray, List.getElem?_cons_zero, List.getElem?_cons_succ]; rfl)) (by kernel_rfl) (by kernel_rfl) (by kernel_rfl) (by (intro _ _ _ h; exact h)) (Or.inl ⟨by rfl, ?_⟩) (by assumption) ?_; rotate_left; intro w hSw; (try dsimp only at hSw); go_simp; (try with_reducible rfl))
        | (refine wpAnyH_take (i := 5) (v := undef) (by (simp only [List.getElem?_toArray, List.getElem?_cons_zero, List.getElem?_cons_succ]; rfl)) (by kernel_rfl) (by kernel_rfl) (by kernel_rfl) (by (intro _ _ _ h; exact h)) (Or.inr ⟨by rfl, rfl⟩) (by assumption) ?_)
      (try simp only [Act.put, List.setIfInBounds_toArray, List.set_cons_zero, List.set_cons_succ])
      first
        | (refine wpAnyH_take (i := 6) (v := ?_) (by (simp only [List.getElem?_toArray, List.getElem?_cons_zero, List.getElem?_cons_succ]; rfl)) (by kernel_rfl) (by kernel_rfl) (by kernel_rfl) (by (intro _ _ _ h; exact h)) (Or.inl ⟨by rfl, ?_⟩) (by assumption) ?_; rotate_left; intro w hSw; (try dsimp only at hSw); go_simp; (try with_reducible rfl))
        | (refine wpAnyH_take (i := 6) (v := undef) (by (simp only [List.getElem?_toArray, List.getElem?_cons_zero, List.getElem?_cons_succ]; rfl)) (by kernel_rfl) (by kernel_rfl) (by kernel_rfl) (by (intro _ _ _ h; exact h)) (Or.inr ⟨by rfl, rfl⟩) (by assumption) ?_)
      (try simp only [Act.put, List.setIfInBounds_toArray, List.set_cons_zero, List.set_cons_succ])
      first
        | (refine wpAnyH_take (i := 8) (v := ?_) (by (simp only [List.getElem?_toArray, List.getElem?_cons_zero, List.getElem?_cons_succ]; rfl)) (by kernel_rfl) (by kernel_rfl) (by kernel_rfl) (by (intro _ _ _ h; exact h)) (Or.inl ⟨by rfl, ?_⟩) (by assumption) ?_; rotate_left; intro w hSw; (try dsimp only at hSw); go_simp; (try with_reducible rfl))
        | (refine wpAnyH_take (i := 8) (v := undef) (by (simp only [List.getElem?_toArray, List.getElem?_cons_zero, List.getElem?_cons_succ]; rfl)) (by kernel_rfl) (by kernel_rfl) (by kernel_rfl) (by (intro _ _ _ h; exact h)) (Or.inr ⟨by rfl, rfl⟩) (by assumption) ?_)
      (try simp only [Act.put, List.setIfInBounds_toArray, List.set_cons_zero, List.set_cons_succ])
      refine wpAnyH_ready (rs := [7]) (by kernel_rfl) (by simp) (AllReadyH.cons (by (simp only [List.getElem?_toArray, List.getElem?_cons_zero, List.getElem?_cons_succ]; rfl)) (fun K hK => ?_) AllReadyH.nil)
      go_simp
      refine (D3.out _).mono ?_; rintro e w' ⟨rfl, hb⟩; have hk := keep_cell hb; have hz := hb.size; (try simp at hz)
      go_wp2_with fail
      refine hK.out _ _ ?_ (fun hHeld => ?_)
      · (try dsimp only)
        go_keep
      clear hK K
      (try simp only [Act.put, List.setIfInBounds_toArray, List.set_cons_zero, List.set_cons_succ])
      refine wpAnyH_ready (rs := [9]) (by kernel_rfl) (by simp) (AllReadyH.cons (by (simp only [List.getElem?_toArray, List.getElem?_cons_zero, List.getElem?_cons_succ]; rfl)) (fun K hK => ?_) AllReadyH.nil)
      go_simp
      refine (D4.out _).mono ?_; rintro e w' ⟨rfl, hb⟩; have hk := keep_cell hb; have hz := hb.size; (try simp at hz)
      go_wp2_with fail
      refine hK.out _ _ ?_ (fun hHeld => ?_)
      · (try dsimp only)
        go_keep
      clear hK K
      (try simp only [Act.put, List.setIfInBounds_toArray, List.set_cons_zero, List.set_cons_succ])
      first
        | (refine wpAnyH_take (i := 10) (v := ?_) (by (simp only [List.getElem?_toArray, List.getElem?_cons_zero, List.getElem?_cons_succ]; rfl)) (by kernel_rfl) (by kernel_rfl) (by kernel_rfl) (by (intro _ _ _ h; exact h)) (Or.inl ⟨by rfl, ?_⟩) (by assumption) ?_; rotate_left; intro w hSw; (try dsimp only at hSw); go_simp; (try with_reducible rfl))
        | (refine wpAnyH_take (i := 10) (v := undef) (by (simp only [List.getElem?_toArray, List.getElem?_cons_zero, List.getElem?_cons_succ]; rfl)) (by kernel_rfl) (by kernel_rfl) (by kernel_rfl) (by (intro _ _ _ h; exact h)) (Or.inr ⟨by rfl, rfl⟩) (by assumption) ?_)
      (try simp only [Act.put, List.setIfInBounds_toArray, List.set_cons_zero, List.set_cons_succ])
      first
        | (refine wpAnyH_take (i := 11) (v := ?_) (by (simp only [List.getElem?_toArray, List.getElem?_cons_zero, List.getElem?_cons_succ]; rfl)) (by kernel_rfl) (by kernel_rfl) (by kernel_rfl) (by (intro _ _ _ h; exact h)) (Or.inl ⟨by rfl, ?_⟩) (by assumption) ?_; rotate_left; intro w hSw; (try dsimp only at hSw); go_simp; (try with_reducible rfl))
        | (refine wpAnyH_take (i := 11) (v := undef) (by (simp only [List.getElem?_toArray, List.getElem?_cons_zero, List.getElem?_cons_succ]; rfl)) (by kernel_rfl) (by kernel_rfl) (by kernel_rfl) (by (intro _ _ _ h; exact h)) (Or.inr ⟨by rfl, rfl⟩) (by assumption) ?_)
      (try simp only [Act.put, List.setIfInBounds_toArray, List.set_cons_zero, List.set_cons_succ])
      first
        | (refine wpAnyH_take (i := 12) (v := ?_) (by (simp only [List.getElem?_toArray, List.getElem?_cons_zero, List.getElem?_cons_succ]; rfl)) (by kernel_rfl) (by kernel_rfl) (by kernel_rfl) (by (intro _ _ _ h; exact h)) (Or.inl ⟨by rfl, ?_⟩) (by assumption) ?_; rotate_left; intro w hSw; (try dsimp only at hSw); go_simp; (try with_reducible rfl))
        | (refine wpAnyH_take (i := 12) (v := undef) (by (simp only [List.getElem?_toArray, List.getElem?_cons_zero, List.getElem?_cons_succ]; rfl)) (by kernel_rfl) (by kernel_rfl) (by kernel_rfl) (by (intro _ _ _ h; exact h)) (Or.inr ⟨by rfl, rfl⟩) (by assumption) ?_)
      (try simp only [Act.put, List.setIfInBounds_toArray, List.set_cons_zero, List.set_cons_succ])
      first
        | (refine wpAnyH_take (i := 13) (v := ?_) (by (simp only [List.getElem?_toArray, List.getElem?_cons_zero, List.getElem?_cons_succ]; rfl)) (by kernel_rfl) (by kernel_rfl) (by kernel_rfl) (by (intro _ _ _ h; exact h)) (Or.inl ⟨by rfl, ?_⟩) (by assumption) ?_; rotate_left; intro w hSw; (try dsimp only at hSw); go_simp; (try with_reducible rfl))
        | (refine wpAnyH_take (i := 13) (v := undef) (by (simp only [List.getElem?_toArray, List.getElem?_cons_zero, List.getElem?_cons_succ]; rfl)) (by kernel_rfl) (by kernel_rfl) (by kernel_rfl) (by (intro _ _ _ h; exact h)) (Or.inr ⟨by rfl, rfl⟩) (by assumption) ?_)
      (try simp only [Act.put, List.setIfInBounds_toArray, List.set_cons_zero, List.set_cons_succ])
      first
        | (refine wpAnyH_take (i := 15) (v := ?_) (by (simp only [List.getElem?_toArray, List.getElem?_cons_zero, List.getElem?_cons_succ]; rfl)) (by kernel_rfl) (by kernel_rfl) (by kernel_rfl) (by (intro _ _ _ h; exact h)) (Or.inl ⟨by rfl, ?_⟩) (by assumption) ?_; rotate_left; intro w hSw; (try dsimp only at hSw); go_simp; (try with_reducible rfl))
        | (refine wpAnyH_take (i := 15) (v := undef) (by (simp only [List.getElem?_toArray, List.getElem?_cons_zero, List.getElem?_cons_succ]; rfl)) (by kernel_rfl) (by kernel_rfl) (by kernel_rfl) (by (intro _ _ _ h; exact h)) (Or.inr ⟨by rfl, rfl⟩) (by assumption) ?_)
      (try simp only [Act.put, List.setIfInBounds_toArray, List.set_cons_zero, List.set_cons_succ])
      first
        | (refine wpAnyH_take (i := 16) (v := ?_) (by (simp only [List.getElem?_toArray, List.getElem?_cons_zero, List.getElem?_cons_succ]; rfl)) (by kernel_rfl) (by kernel_rfl) (by kernel_rfl) (by (intro _ _ _ h; exact h)) (Or.inl ⟨by rfl, ?_⟩) (by assumption) ?_; rotate_left; intro w hSw; (try dsimp only at hSw); go_simp; (try with_reducible rfl))
        | (refine wpAnyH_take (i := 16) (v := undef) (by (simp only [List.getElem?_toArray, List.getElem?_cons_zero, List.getElem?_cons_succ]; rfl)) (by kernel_rfl) (by kernel_rfl) (by kernel_rfl) (by (intro _ _ _ h; exact h)) (Or.inr ⟨by rfl, rfl⟩) (by assumption) ?_)
      (try simp only [Act.put, List.setIfInBounds_toArray, List.set_cons_zero, List.set_cons_succ])
      first
        | (refine wpAnyH_take (i := 17) (v := ?_) (by (simp only [List.getElem?_toArray, List.getElem?_cons_zero, List.getElem?_cons_succ]; rfl)) (by kernel_rfl) (by kernel_rfl) (by kernel_rfl) (by (intro _ _ _ h; exact h)) (Or.inl ⟨by rfl, ?_⟩) (by assumption) ?_; rotate_left; intro w hSw; (try dsimp only at hSw); go_simp; (try with_reducible rfl))
        | (refine wpAnyH_take (i := 17) (v := undef) (by (simp only [List.getElem?_toArray, List.getElem?_cons_zero, List.getElem?_cons_succ]; rfl)) (by kernel_rfl) (by kernel_rfl) (by kernel_rfl) (by (intro _ _ _ h; exact h)) (Or.inr ⟨by rfl, rfl⟩) (by assumption) ?_)
      (try simp only [Act.put, List.setIfInBounds_toArray, List.set_cons_zero, List.set_cons_succ])
      refine wpAnyH_ready (rs := [14]) (by kernel_rfl) (by simp) (AllReadyH.cons (by (simp only [List.getElem?_toArray, List.getElem?_cons_zero, List.getElem?_cons_succ]; rfl)) (fun K hK => ?_) AllReadyH.nil)
      go_simp
      refine (D5.out _).mono ?_; rintro e w' ⟨rfl, hb⟩; have hk := keep_cell hb; have hz := hb.size; (try simp at hz)
      go_wp2_with fail
      refine hK.out _ _ ?_ (fun hHeld => ?_)
      · (try dsimp only)
        go_keep
      clear hK K
      (try simp only [Act.put, List.setIfInBounds_toArray, List.set_cons_zero, List.set_cons_succ])
      first
        | (refine wpAnyH_take (i := 18) (v := ?_) (by (simp only [List.getElem?_toArray, List.getElem?_cons_zero, List.getElem?_cons_succ]; rfl)) (by kernel_rfl) (by kernel_rfl) (by kernel_rfl) (by (intro _ _ _ h; exact h)) (Or.inl ⟨by rfl, ?_⟩) (by assumption) ?_; rotate_left; intro w hSw; (try dsimp only at hSw); go_simp; (try with_reducible rfl))
        | (refine wpAnyH_take (i := 18) (v := undef) (by (simp only [List.getElem?_toArray, List.getElem?_cons_zero, List.getElem?_cons_succ]; rfl)) (by kernel_rfl) (by kernel_rfl) (by kernel_rfl) (by (intro _ _ _ h; exact h)) (Or.inr ⟨by rfl, rfl⟩) (by assumption) ?_)
      (try simp only [Act.put, List.setIfInBounds_toArray, List.set_cons_zero, List.set_cons_succ])
      first
        | (refine wpAnyH_take (i := 19) (v := ?_) (by (simp only [List.getElem?_toArray, List.getElem?_cons_zero, List.getElem?_cons_succ]; rfl)) (by kernel_rfl) (by kernel_rfl) (by kernel_rfl) (by (intro _ _ _ h; exact h)) (Or.inl ⟨by rfl, ?_⟩) (by assumption) ?_; rotate_left; intro w hSw; (try dsimp only at hSw); go_simp; (try with_reducible rfl))
        | (refine wpAnyH_take (i := 19) (v := undef) (by (simp only [List.getElem?_toArray, List.getElem?_cons_zero, List.getElem?_cons_succ]; rfl)) (by kernel_rfl) (by kernel_rfl) (by kernel_rfl) (by (intro _ _ _ h; exact h)) (Or.inr ⟨by rfl, rfl⟩) (by assumption) ?_)
      (try simp only [Act.put, List.setIfInBounds_toArray, List.set_cons_zero, List.set_cons_succ])
      first
        | (refine wpAnyH_take (i := 20) (v := ?_) (by (simp only [List.getElem?_toArray, List.getElem?_cons_zero, List.getElem?_cons_succ]; rfl)) (by kernel_rfl) (by kernel_rfl) (by kernel_rfl) (by (intro _ _ _ h; exact h)) (Or.inl ⟨by rfl, ?_⟩) (by assumption) ?_; rotate_left; intro w hSw; (try dsimp only at hSw); go_simp; (try with_reducible rfl))
        | (refine wpAnyH_take (i := 20) (v := undef) (by (simp only [List.getElem?_toArray, List.getElem?_cons_zero, List.getElem?_cons_succ]; rfl)) (by kernel_rfl) (by kernel_rfl) (by kernel_rfl) (by (intro _ _ _ h; exact h)) (Or.inr ⟨by rfl, rfl⟩) (by assumption) ?_)
      (try simp only [Act.put, List.setIfInBounds_toArray, List.set_cons_zero, List.set_cons_succ])
      first
        | (refine wpAnyH_take (i := 21) (v := ?_) (by (simp only [List.getElem?_toArray, List.getElem?_cons_zero, List.getElem?_cons_succ]; rfl)) (by kernel_rfl) (by kernel_rfl) (by kernel_rfl) (by (intro _ _ _ h; exact h)) (Or.inl ⟨by rfl, ?_⟩) (by assumption) ?_; rotate_left; intro w hSw; (try dsimp only at hSw); go_simp; (try with_reducible rfl))
        | (refine wpAnyH_take (i := 21) (v := undef) (by (simp only [List.getElem?_toArray, List.getElem?_cons_zero, List.getElem?_cons_succ]; rfl)) (by kernel_rfl) (by kernel_rfl) (by kernel_rfl) (by (intro _ _ _ h; exact h)) (Or.inr ⟨by rfl, rfl⟩) (by assumption) ?_)
      (try simp only [Act.put, List.setIfInBounds_toArray, List.set_cons_zero, List.set_cons_succ])
      first
        | (refine wpAnyH_take (i := 22) (v := ?_) (by (simp only [List.getElem?_toArray, List.getElem?_cons_zero, List.getElem?_cons_succ]; rfl)) (by kernel_rfl) (by kernel_rfl) (by kernel_rfl) (by (intro _ _ _ h; exact h)) (Or.inl ⟨by rfl, ?_⟩) (by assumption) ?_; rotate_left; intro w hSw; (try dsimp only at hSw); go_simp; (try with_reducible rfl))
        | (refine wpAnyH_take (i := 22) (v := undef) (by (simp only [List.getElem?_toArray, List.getElem?_cons_zero, List.getElem?_cons_succ]; rfl)) (by kernel_rfl) (by kernel_rfl) (by kernel_rfl) (by (intro _ _ _ h; exact h)) (Or.inr ⟨by rfl, rfl⟩) (by assumption) ?_)
      (try simp only [Act.put, List.setIfInBounds_toArray, List.set_cons_zero, List.set_cons_succ])
      first
        | (refine wpAnyH_take (i := 23) (v := ?_) (by (simp only [List.getElem?_toArray, List.getElem?_cons_zero, List.getElem?_cons_succ]; rfl)) (by kernel_rfl) (by kernel_rfl) (by kernel_rfl) (by (intro _ _ _ h; exact h)) (Or.inl ⟨by rfl, ?_⟩) (by assumption) ?_; rotate_left; intro w hSw; (try dsimp only at hSw); go_simp; (try with_reducible rfl))
        | (refine wpAnyH_take (i := 23) (v := undef) (by (simp only [List.getElem?_toArray, List.getElem?_cons_zero, List.getElem?_cons_succ]; rfl)) (by kernel_rfl) (by kernel_rfl) (by kernel_rfl) (by (intro _ _ _ h; exact h)) (Or.inr ⟨by rfl, rfl⟩) (by assumption) ?_)
      (try simp only [Act.put, List.setIfInBounds_toArray, List.set_cons_zero, List.set_cons_succ])
      first
        | (refine wpAnyH_take (i := 24) (v := ?_) (by (simp only [List.getElem?_toArray, List.getElem?_cons_zero, List.getElem?_cons_succ]; rfl)) (by kernel_rfl) (by kernel_rfl) (by kernel_rfl) (by (intro _ _ _ h; exact h)) (Or.inl ⟨by rfl, ?_⟩) (by assumption) ?_; rotate_left; intro w hSw; (try dsimp only at hSw); go_simp; (try with_reducible rfl))
        | (refine wpAnyH_take (i := 24) (v := undef) (by (simp only [List.getElem?_toArray, List.getElem?_cons_zero, List.getElem?_cons_succ]; rfl)) (by kernel_rfl) (by kernel_rfl) (by kernel_rfl) (by (intro _ _ _ h; exact h)) (Or.inr ⟨by rfl, rfl⟩) (by assumption) ?_)
      (try simp only [Act.put, List.setIfInBounds_toArray, List.set_cons_zero, List.set_cons_succ])
      first
        | (refine wpAnyH_take (i := 25) (v := ?_) (by (simp only [List.getElem?_toArray, List.getElem?_cons_zero, List.getElem?_cons_succ]; rfl)) (by kernel_rfl) (by kernel_rfl) (by kernel_rfl) (by (intro _ _ _ h; exact h)) (Or.inl ⟨by rfl, ?_⟩) (by assumption) ?_; rotate_left; intro w hSw; (try dsimp only at hSw); go_simp; (try with_reducible rfl))
        | (refine wpAnyH_take (i := 25) (v := undef) (by (simp only [List.getElem?_toArray, List.getElem?_cons_zero, List.getElem?_cons_succ]; rfl)) (by kernel_rfl) (by kernel_rfl) (by kernel_rfl) (by (intro _ _ _ h; exact h)) (Or.inr ⟨by rfl, rfl⟩) (by assumption) ?_)
      (try simp only [Act.put, List.setIfInBounds_toArray, List.set_cons_zero, List.set_cons_succ])
      first
        | (refine wpAnyH_take (i := 26) (v := ?_) (by (simp only [List.getElem?_toArray, List.getElem?_cons_zero, List.getElem?_cons_succ]; rfl)) (by kernel_rfl) (by kernel_rfl) (by kernel_rfl) (by (intro _ _ _ h; exact h)) (Or.inl ⟨by rfl, ?_⟩) (by assumption) ?_; rotate_left; intro w hSw; (try dsimp only at hSw); go_simp; (try with_reducible rfl))
        | (refine wpAnyH_take (i := 26) (v := undef) (by (simp only [List.getElem?_toArray, List.getElem?_cons_zero, List.getElem?_cons_succ]; rfl)) (by kernel_rfl) (by kernel_rfl) (by kernel_rfl) (by (intro _ _ _ h; exact h)) (Or.inr ⟨by rfl, rfl⟩) (by assumption) ?_)
      (try simp only [Act.put, List.setIfInBounds_toArray, List.set_cons_zero, List.set_cons_succ])
      first
        | (refine wpAnyH_take (i := 27) (v := ?_) (by (simp only [List.getElem?_toArray, List.getElem?_cons_zero, List.getElem?_cons_succ]; rfl)) (by kernel_rfl) (by kernel_rfl) (by kernel_rfl) (by (intro _ _ _ h; exact h)) (Or.inl ⟨by rfl, ?_⟩) (by assumption) ?_; rotate_left; intro w hSw; (try dsimp only at hSw); go_simp; (try with_reducible rfl))
        | (refine wpAnyH_take (i := 27) (v := undef) (by (simp only [List.getElem?_toArray, List.getElem?_cons_zero, List.getElem?_cons_succ]; rfl)) (by kernel_rfl) (by kernel_rfl) (by kernel_rfl) (by (intro _ _ _ h; exact h)) (Or.inr ⟨by rfl, rfl⟩) (by assumption) ?_)
      (try simp only [Act.put, List.setIfInBounds_toArray, List.set_cons_zero, List.set_cons_succ])
      first
        | (refine wpAnyH_take (i := 28) (v := ?_) (by (simp only [List.getElem?_toArray, List.getElem?_cons_zero, List.getElem?_cons_succ]; rfl)) (by kernel_rfl) (by kernel_rfl) (by kernel_rfl) (by (intro _ _ _ h; exact h)) (Or.inl ⟨by rfl, ?_⟩) (by assumption) ?_; rotate_left; intro w hSw; (try dsimp only at hSw); go_simp; (try with_reducible rfl))
        | (refine wpAnyH_take (i := 28) (v := undef) (by (simp only [List.getElem?_toArray, List.getElem?_cons_zero, List.getElem?_cons_succ]; rfl)) (by kernel_rfl) (by kernel_rfl) (by kernel_rfl) (by (intro _ _ _ h; exact h)) (Or.inr ⟨by rfl, rfl⟩) (by assumption) ?_)
      (try simp only [Act.put, List.setIfInBounds_toArray, List.set_cons_zero, List.set_cons_succ])
      first
        | (refine wpAnyH_take (i := 29) (v := ?_) (by (simp only [List.getElem?_toArray, List.getElem?_cons_zero, List.getElem?_cons_succ]; rfl)) (by kernel_rfl) (by kernel_rfl) (by kernel_rfl) (by (intro _ _ _ h; exact h)) (Or.inl ⟨by rfl, ?_⟩) (by assumption) ?_; rotate_left; intro w hSw; (try dsimp only at hSw); go_simp; (try with_reducible rfl))
        | (refine wpAnyH_take (i := 29) (v := undef) (by (simp only [List.getElem?_toArray, List.getElem?_cons_zero, List.getElem?_cons_succ]; rfl)) (by kernel_rfl) (by kernel_rfl) (by kernel_rfl) (by (intro _ _ _ h; exact h)) (Or.inr ⟨by rfl, rfl⟩) (by assumption) ?_)
      (try simp only [Act.put, List.setIfInBounds_toArray, List.set_cons_zero, List.set_cons_succ])
      first
        | (refine wpAnyH_take (i := 30) (v := ?_) (by (simp only [List.getElem?_toArray, List.getElem?_cons_zero, List.getElem?_cons_succ]; rfl)) (by kernel_rfl) (by kernel_rfl) (by kernel_rfl) (by (intro _ _ _ h; exact h)) (Or.inl ⟨by rfl, ?_⟩) (by assumption) ?_; rotate_left; intro w hSw; (try dsimp only at hSw); go_simp; (try with_reducible rfl))
        | (refine wpAnyH_take (i := 30) (v := undef) (by (simp only [List.getElem?_toArray, List.getElem?_cons_zero, List.getElem?_cons_succ]; rfl)) (by kernel_rfl) (by kernel_rfl) (by kernel_rfl) (by (intro _ _ _ h; exact h)) (Or.inr ⟨by rfl, rfl⟩) (by assumption) ?_)
      (try simp only [Act.put, List.setIfInBounds_toArray, List.set_cons_zero, List.set_cons_succ])
      first
        | (refine wpAnyH_take (i := 31) (v := ?_) (by (simp only [List.getElem?_toArray, List.getElem?_cons_zero, List.getElem?_cons_succ]; rfl)) (by kernel_rfl) (by kernel_rfl) (by kernel_rfl) (by (intro _ _ _ h; exact h)) (Or.inl ⟨by rfl, ?_⟩) (by assumption) ?_; rotate_left; intro w hSw; (try dsimp only at hSw); go_simp; (try with_reducible rfl))
        | (refine wpAnyH_take (i := 31) (v := undef) (by (simp only [List.getElem?_toArray, List.getElem?_cons_zero, List.getElem?_cons_succ]; rfl)) (by kernel_rfl) (by kernel_rfl) (by kernel_rfl) (by (intro _ _ _ h; exact h)) (Or.inr ⟨by rfl, rfl⟩) (by assumption) ?_)
      (try simp only [Act.put, List.setIfInBounds_toArray, List.set_cons_zero, List.set_cons_succ])
      first
        | (refine wpAnyH_take (i := 32) (v := ?_) (by (simp only [List.getElem?_toArray, List.getElem?_cons_zero, List.getElem?_cons_succ]; rfl)) (by kernel_rfl) (by kernel_rfl) (by kernel_rfl) (by (intro _ _ _ h; exact h)) (Or.inl ⟨by rfl, ?_⟩) (by assumption) ?_; rotate_left; intro w hSw; (try dsimp only at hSw); go_simp; (try with_reducible rfl))
        | (refine wpAnyH_take (i := 32) (v := undef) (by (simp only [List.getElem?_toArray, List.getElem?_cons_zero, List.getElem?_cons_succ]; rfl)) (by kernel_rfl) (by kernel_rfl) (by kernel_rfl) (by (intro _ _ _ h; exact h)) (Or.inr ⟨by rfl, rfl⟩) (by assumption) ?_)
      (try simp only [Act.put, List.setIfInBounds_toArray, List.set_cons_zero, List.set_cons_succ])
      first
        | (refine wpAnyH_take (i := 33) (v := ?_) (by (simp only [List.getElem?_toArray, List.getElem?_cons_zero, List.getElem?_cons_succ]; rfl)) (by kernel_rfl) (by kernel_rfl) (by kernel_rfl) (by (intro _ _ _ h; exact h)) (Or.inl ⟨by rfl, ?_⟩) (by assumption) ?_; rotate_left; intro w hSw; (try dsimp only at hSw); go_simp; (try with_reducible rfl))
        | (refine wpAnyH_take (i := 33) (v := undef) (by (simp only [List.getElem?_toArray, List.getElem?_cons_zero, List.getElem?_cons_succ]; rfl)) (by kernel_rfl) (by kernel_rfl) (by kernel_rfl) (by (intro _ _ _ h; exact h)) (Or.inr ⟨by rfl, rfl⟩) (by assumption) ?_)
      (try simp only [Act.put, List.setIfInBounds_toArray, List.set_cons_zero, List.set_cons_succ])
      first
        | (refine wpAnyH_take (i := 34) (v := ?_) (by (simp only [List.getElem?_toArray, List.getElem?_cons_zero, List.getElem?_cons_succ]; rfl)) (by kernel_rfl) (by kernel_rfl) (by kernel_rfl) (by (intro _ _ _ h; exact h)) (Or.inl ⟨by rfl, ?_⟩) (by assumption) ?_; rotate_left; intro w hSw; (try dsimp only at hSw); go_simp; (try with_reducible rfl))
        | (refine wpAnyH_take (i := 34) (v := undef) (by (simp only [List.getElem?_toArray, List.getElem?_cons_zero, List.getElem?_cons_succ]; rfl)) (by kernel_rfl) (by kernel_rfl) (by kernel_rfl) (by (intro _ _ _ h; exact h)) (Or.inr ⟨by rfl, rfl⟩) (by assumption) ?_)
      (try simp only [Act.put, List.setIfInBounds_toArray, List.set_cons_zero, List.set_cons_succ])
      refine wpAnyH_done (by kernel_rfl) ?_ _
    all_goals (go_wp2_with fail; go_meet; case rel => exact ⟨rfl, by (repeat' (first | (with_reducible exact Below.refl _ _) | (with_reducible assumption) | (with_reducible refine Below.alloc ?_ ?_ _) | (with_reducible refine Below.drew ?_) | (with_reducible refine below_drewN ?_ _) | (with_reducible refine Below.setCell ?_ ?_ _) | (with_reducible refine Below.trans ?_ (Below.mono (by assumption) ?_)) | go_size))⟩)
  case rest =>
    obtain ⟨rfl, hbc⟩ := hcut
    have hzc := hbc.size
    have hB0 : Boxes (((wc.alloc (.cells #[] 40)).alloc (.cells #[] 4)).alloc (.cells #[.int .u64 s0.toNat, .int .u64 s1.toNat, .int .u64 s2.toNat, .int .u64 s3.toNat] 41)) [(w.heap.size, [.int .u64 s0.toNat, .int .u64 s1.toNat, .int .u64 s2.toNat, .int .u64 s3.toNat]), (wc.heap.size + 1 + 1, [.int .u64 s0.toNat, .int .u64 s1.toNat, .int .u64 s2.toNat, .int .u64 s3.toNat])] := Boxes.cons ((((HB1.out.below hbc).alloc _).alloc _).alloc _).head (Boxes.cons (box4 ⟨by go_simp, by go_simp, by go_simp, by go_simp⟩ ⟨by go_simp, by go_simp, by go_simp, by go_simp⟩) (Boxes.nil _))
    have hb0 : Below w.heap.size w (((wc.alloc (.cells #[] 40)).alloc (.cells #[] 4)).alloc (.cells #[.int .u64 s0.toNat, .int .u64 s1.toNat, .int .u64 s2.toNat, .int .u64 s3.toNat] 41)) := ((((HW1.out.trans (hbc.mono (by omega))).alloc (by omega) _).alloc (by simp; omega) _).alloc (by simp; omega) _)
    have hu0 : ((((wc.alloc (.cells #[] 40)).alloc (.cells #[] 4)).alloc (.cells #[.int .u64 s0.toNat, .int .u64 s1.toNat, .int .u64 s2.toNat, .int .u64 s3.toNat] 41))).ownsRow wc.heap.size 40 1 (.slice (some ⟨wc.heap.size, 0, none⟩) 0 0) 0 [] := ((World.ownsRow_made (base := wc.heap.size) (e := 40) (size := 1) (w := wc) #[] 0 (by omega) (by decide) rfl).alloc _).alloc _
    have hv0 : ((((wc.alloc (.cells #[] 40)).alloc (.cells #[] 4)).alloc (.cells #[.int .u64 s0.toNat, .int .u64 s1.toNat, .int .u64 s2.toNat, .int .u64 s3.toNat] 41))).ownsRow wc.heap.size 4 1 (.slice (some ⟨wc.heap.size + 1, 0, none⟩) 0 0) 0 [] := by
      have h := (World.ownsRow_made (base := wc.heap.size) (e := 4) (size := 1) (w := wc.alloc (.cells #[] 40)) #[] 0 (by simp) (by decide) rfl)
      have e : (wc.alloc (.cells #[] 40)).heap.size = wc.heap.size + 1 := by simp
      rw [e] at h
      exact h.alloc _
    obtain ⟨n, hn⟩ : ∃ n : Nat, (if m < 0 ∨ 2048 < m then 0 else m.toNat) = n := ⟨_, rfl⟩
    have hn2 : n ≤ 2048 := by rw [← hn]; split <;> omega
    have hn3 : (m < 0 ∧ n = 0) ∨ (2048 < m ∧ n = 0) ∨ (m = n) := by rw [← hn]; split <;> omega
    have HN3 := Lib.hid hn3
    have HB0 := Lib.hid hB0
    have HU0 := Lib.hid hu0
    have HV0 := Lib.hid hv0
    have Hb0 := Lib.hid hb0
    have hBc := HB1.out.below hbc
    have fcwc_s0 : wc.cell? ⟨w.heap.size, 0, none⟩ = some (.int .u64 s0.toNat) := (hBc.head 0 _ rfl).1; have ffwc_s0 : wc.frozen? ⟨w.heap.size, 0, none⟩ = false := (hBc.head 0 _ rfl).2; have fcwc_s1 : wc.cell? ⟨w.heap.size, 1, none⟩ = some (.int .u64 s1.toNat) := (hBc.head 1 _ rfl).1; have ffwc_s1 : wc.frozen? ⟨w.heap.size, 1, none⟩ = false := (hBc.head 1 _ rfl).2; have fcwc_s2 : wc.cell? ⟨w.heap.size, 2, none⟩ = some (.int .u64 s2.toNat) := (hBc.head 2 _ rfl).1; have ffwc_s2 : wc.frozen? ⟨w.heap.size, 2, none⟩ = false := (hBc.head 2 _ rfl).2; have fcwc_s3 : wc.cell? ⟨w.heap.size, 3, none⟩ = some (.int .u64 s3.toNat) := (hBc.head 3 _ rfl).1; have ffwc_s3 : wc.frozen? ⟨w.heap.size, 3, none⟩ = false := (hBc.head 3 _ rfl).2
    clear hBc hn hn3 hB0 hu0 hv0 hb0 hbc D1 D2 D3 D4 HB1 HW1
    go_wp2_with fail
    go_loopw [5, 6, 8] (fun va vb i wr => ∃ (j : Nat) (x : St), j ≤ n ∧ i = .int .i64 j ∧ Hid (Xo.it j ⟨s0, s1, s2, s3⟩ = x) ∧ Boxes wr [(w.heap.size, [.int .u64 s0.toNat, .int .u64 s1.toNat, .int .u64 s2.toNat, .int .u64 s3.toNat]), (wc.heap.size + 1 + 1, [.int .u64 (x).a.toNat, .int .u64 (x).b.toNat, .int .u64 (x).c.toNat, .int .u64 (x).d.toNat])] ∧
      wr.ownsRow wc.heap.size 40 1 va (min j 256) (u64s (Xo.words (min j 256) ⟨s0, s1, s2, s3⟩)) ∧ wr.ownsRow wc.heap.size 4 1 vb j (bools (Xo.bitsL j ⟨s0, s1, s2, s3⟩)) ∧
      (Away va vb ∧ Apart va w.heap.size ∧ Apart vb w.heap.size ∧ Apart va (wc.heap.size + 1 + 1) ∧ Apart vb (wc.heap.size + 1 + 1)) ∧ wc.heap.size + 1 + 1 < wr.heap.size ∧ Below w.heap.size w wr) (fun _ _ i _ => n - (intOf i).toNat)
    case atStart => exact ⟨0, ⟨s0, s1, s2, s3⟩, by omega, rfl, Lib.hid rfl, HB0.out, HU0.out, HV0.out, by simp [Away, Apart, Value.ownBlock]; omega, by simp, Hb0.out⟩
    case round =>
      obtain ⟨j, ⟨x0, x1, x2, x3⟩, hj, rfl, hx, hB, hu, hv, hap, hz, hb⟩ := hrel
      have hBx : Boxes wr [(w.heap.size, [.int .u64 s0.toNat, .int .u64 s1.toNat, .int .u64 s2.toNat, .int .u64 s3.toNat]), (wc.heap.size + 1 + 1, [.int .u64 x0.toNat, .int .u64 x1.toNat, .int .u64 x2.toNat, .int .u64 x3.toNat])] := hB
      have fcwr_s0 : wr.cell? ⟨w.heap.size, 0, none⟩ = some (.int .u64 s0.toNat) := (hBx.head 0 _ rfl).1; have ffwr_s0 : wr.frozen? ⟨w.heap.size, 0, none⟩ = false := (hBx.head 0 _ rfl).2; have fcwr_s1 : wr.cell? ⟨w.heap.size, 1, none⟩ = some (.int .u64 s1.toNat) := (hBx.head 1 _ rfl).1; have ffwr_s1 : wr.frozen? ⟨w.heap.size, 1, none⟩ = false := (hBx.head 1 _ rfl).2; have fcwr_s2 : wr.cell? ⟨w.heap.size, 2, none⟩ = some (.int .u64 s2.toNat) := (hBx.head 2 _ rfl).1; have ffwr_s2 : wr.frozen? ⟨w.heap.size, 2, none⟩ = false := (hBx.head 2 _ rfl).2; have fcwr_s3 : wr.cell? ⟨w.heap.size, 3, none⟩ = some (.int .u64 s3.toNat) := (hBx.head 3 _ rfl).1; have ffwr_s3 : wr.frozen? ⟨w.heap.size, 3, none⟩ = false := (hBx.head 3 _ rfl).2; have fcwr_y0 : wr.cell? ⟨wc.heap.size + 1 + 1, 0, none⟩ = some (.int .u64 x0.toNat) := (hBx.tail.head 0 _ rfl).1; have ffwr_y0 : wr.frozen? ⟨wc.heap.size + 1 + 1, 0, none⟩ = false := (hBx.tail.head 0 _ rfl).2; have fcwr_y1 : wr.cell? ⟨wc.heap.size + 1 + 1, 1, none⟩ = some (.int .u64 x1.toNat) := (hBx.tail.head 1 _ rfl).1; have ffwr_y1 : wr.frozen? ⟨wc.heap.size + 1 + 1, 1, none⟩ = false := (hBx.tail.head 1 _ rfl).2; have fcwr_y2 : wr.cell? ⟨wc.heap.size + 1 + 1, 2, none⟩ = some (.int .u64 x2.toNat) := (hBx.tail.head 2 _ rfl).1; have ffwr_y2 : wr.frozen? ⟨wc.heap.size + 1 + 1, 2, none⟩ = false := (hBx.tail.head 2 _ rfl).2; have fcwr_y3 : wr.cell? ⟨wc.heap.size + 1 + 1, 3, none⟩ = some (.int .u64 x3.toNat) := (hBx.tail.head 3 _ rfl).1; have ffwr_y3 : wr.frozen? ⟨wc.heap.size + 1 + 1, 3, none⟩ = false := (hBx.tail.head 3 _ rfl).2
      have HB := Lib.hid hBx
      have HU := Lib.hid hu
      have HV := Lib.hid hv
      have HP := Lib.hid hap
      clear hB hBx hu hv hap
      by_cases hlt : j < n
      · have l1 : (j : Int) < m := by have := HN3.out; omega
        have l2 : m ≤ 2048 := by have := HN3.out; omega
        by_cases h256 : j < 256
        · have l3 : (j : Int) < 256 := by omega
          go_wp2_with fail
          refine (rxword_c _ _ _ _ _).mono ?_
          rintro e w2 ⟨rfl, hb2⟩
          have hu2 := owns_below HU.out hb2
          have hz2 := hb2.size
          go_wp2_with (at_builtin; refine wpList_append_own_at _ rfl _ _ 48 rfl wc.heap.size 40 iu (.int .u64 0) 1 8 Try.underlying48 hiu hiu0 hiu1 hiu2 rfl (by decide) _ _ _ rfl (hu2.alloc _) ⟨w2.heap.size, 0, none⟩ 1 1 [.int .u64 (Xo.word ⟨x0, x1, x2, x3⟩).toNat] rfl rfl ?qa ?qb ?qc ?qd ?qe ?_)
          case qa => exact one_new _ _ _
          case qb => exact one_u64 _
          case qc => unfold maxLen; omega
          case qd => omega
          case qe => exact (by first | omega | (simp; done) | (simp; omega))
          intro va3 w3 hu3 hg3 _ hat3
          have hv3 := owns_away ((owns_below HV.out hb2).alloc _) hg3 HP.out.1
          have B3 : Boxes w3 [(w.heap.size, [.int .u64 s0.toNat, .int .u64 s1.toNat, .int .u64 s2.toNat, .int .u64 s3.toNat]), (wc.heap.size + 1 + 1, [.int .u64 x0.toNat, .int .u64 x1.toNat, .int .u64 x2.toNat, .int .u64 x3.toNat])] := Boxes.apart ((HB.out.below hb2).alloc _) hg3 (by have := HP.out; intro q hq; simp at hq; rcases hq with rfl | rfl; exact this.2.1; exact this.2.2.2.1)
          have b3 : Below w.heap.size w w3 := Below.grown ((hb.trans (hb2.mono (by omega))).alloc (by omega) _) hg3 (by simp; omega) (fun k e => by have := (hu2.lt _ e).1; omega)
          have hz3 : wc.heap.size + 1 + 1 < w3.heap.size := by have := hg3.size; simp at this; omega
          have hu3' : w3.ownsRow wc.heap.size 40 1 va3 (min (j + 1) 256) (u64s (Xo.words (min (j + 1) 256) ⟨s0, s1, s2, s3⟩)) := by
            have e1 : min j 256 = j := by omega
            have e2 : min (j + 1) 256 = j + 1 := by omega
            rw [e1] at hu3
            rw [e2, Xo.words_succ, hx.out, u64s_snoc]; exact hu3
          have P3 : Away va3 u6 ∧ Apart va3 w.heap.size ∧ Apart u6 w.heap.size ∧ Apart va3 (wc.heap.size + 1 + 1) ∧ Apart u6 (wc.heap.size + 1 + 1) := by
            have hp := HP.out
            exact ⟨away_at hp.1 hat3 (owns_below HV.out hb2) (by omega), apart_at hp.2.1 hat3 (by omega), hp.2.2.1, apart_at hp.2.2.2.1 hat3 (by omega), hp.2.2.2.2⟩
          have HU3 := Lib.hid hu3'
          have HV3 := Lib.hid hv3
          have HB3 := Lib.hid B3
          have Hb3 := Lib.hid b3
          have HP3 := Lib.hid P3
          clear HU HV HB HP hb hb2 hu2 hu3 hg3 hat3
          have fcw3_s0 : w3.cell? ⟨w.heap.size, 0, none⟩ = some (.int .u64 s0.toNat) := (B3.head 0 _ rfl).1; have ffw3_s0 : w3.frozen? ⟨w.heap.size, 0, none⟩ = false := (B3.head 0 _ rfl).2; have fcw3_s1 : w3.cell? ⟨w.heap.size, 1, none⟩ = some (.int .u64 s1.toNat) := (B3.head 1 _ rfl).1; have ffw3_s1 : w3.frozen? ⟨w.heap.size, 1, none⟩ = false := (B3.head 1 _ rfl).2; have fcw3_s2 : w3.cell? ⟨w.heap.size, 2, none⟩ = some (.int .u64 s2.toNat) := (B3.head 2 _ rfl).1; have ffw3_s2 : w3.frozen? ⟨w.heap.size, 2, none⟩ = false := (B3.head 2 _ rfl).2; have fcw3_s3 : w3.cell? ⟨w.heap.size, 3, none⟩ = some (.int .u64 s3.toNat) := (B3.head 3 _ rfl).1; have ffw3_s3 : w3.frozen? ⟨w.heap.size, 3, none⟩ = false := (B3.head 3 _ rfl).2; have fcw3_y0 : w3.cell? ⟨wc.heap.size + 1 + 1, 0, none⟩ = some (.int .u64 x0.toNat) := (B3.tail.head 0 _ rfl).1; have ffw3_y0 : w3.frozen? ⟨wc.heap.size + 1 + 1, 0, none⟩ = false := (B3.tail.head 0 _ rfl).2; have fcw3_y1 : w3.cell? ⟨wc.heap.size + 1 + 1, 1, none⟩ = some (.int .u64 x1.toNat) := (B3.tail.head 1 _ rfl).1; have ffw3_y1 : w3.frozen? ⟨wc.heap.size + 1 + 1, 1, none⟩ = false := (B3.tail.head 1 _ rfl).2; have fcw3_y2 : w3.cell? ⟨wc.heap.size + 1 + 1, 2, none⟩ = some (.int .u64 x2.toNat) := (B3.tail.head 2 _ rfl).1; have ffw3_y2 : w3.frozen? ⟨wc.heap.size + 1 + 1, 2, none⟩ = false := (B3.tail.head 2 _ rfl).2; have fcw3_y3 : w3.cell? ⟨wc.heap.size + 1 + 1, 3, none⟩ = some (.int .u64 x3.toNat) := (B3.tail.head 3 _ rfl).1; have ffw3_y3 : w3.frozen? ⟨wc.heap.size + 1 + 1, 3, none⟩ = false := (B3.tail.head 3 _ rfl).2
          have ix : ∀ w, (Instr.index 41 (.agg #[.int .u64 x0.toNat, .int .u64 x1.toNat, .int .u64 x2.toNat, .int .u64 x3.toNat]) (.int .i64 0)).run Try.prog w = .ok (.int .u64 x0.toNat) w := fun _ => by kernel_rfl
          clear B3 P3 hu3' b3
          go_wp2_with (at_builtin; refine wpList_append_own_at _ rfl _ _ 49 rfl wc.heap.size 4 ib (.bool false) 1 1 Try.underlying49 hib hib0 hib1 hib2 rfl (by decide) _ _ _ rfl (hv3.alloc _) ⟨w3.heap.size, 0, none⟩ 1 1 [.bool ((x0.toNat : Int) % 2 == 1)] rfl rfl ?qa ?qb ?qc ?qd ?qe ?_)
          case qa => exact one_new _ _ _
          case qb => first | exact one_bool _ | rfl
          case qc => unfold maxLen; omega
          case qd => omega
          case qe => exact (by first | omega | (simp; done) | (simp; omega))
          intro vb4 w4 hv4 hg4 _ hat4
          have hu4 := owns_away (HU3.out.alloc _) hg4 (away_symm HP3.out.1)
          have B4 : Boxes w4 [(w.heap.size, [.int .u64 s0.toNat, .int .u64 s1.toNat, .int .u64 s2.toNat, .int .u64 s3.toNat]), (wc.heap.size + 1 + 1, [.int .u64 x0.toNat, .int .u64 x1.toNat, .int .u64 x2.toNat, .int .u64 x3.toNat])] := Boxes.apart (HB3.out.alloc _) hg4 (by have := HP3.out; intro q hq; simp at hq; rcases hq with rfl | rfl; exact this.2.2.1; exact this.2.2.2.2)
          have b4 : Below w.heap.size w w4 := Below.grown (Hb3.out.alloc (by omega) _) hg4 (by simp; omega) (fun k e => by have := (HV3.out.lt _ e).1; omega)
          have hz4 : wc.heap.size + 1 + 1 < w4.heap.size := by have := hg4.size; simp at this; omega
          have hv4' : w4.ownsRow wc.heap.size 4 1 vb4 (j + 1) (bools (Xo.bitsL (j + 1) ⟨s0, s1, s2, s3⟩)) := by
            rw [Xo.bits_succ, hx.out, bools_snoc]; exact hv4
          have P4 : Away va3 vb4 ∧ Apart va3 w.heap.size ∧ Apart vb4 w.heap.size ∧ Apart va3 (wc.heap.size + 1 + 1) ∧ Apart vb4 (wc.heap.size + 1 + 1) := by
            have hp := HP3.out
            exact ⟨away_symm (away_at (away_symm hp.1) hat4 HU3.out (by omega)), hp.2.1, apart_at hp.2.2.1 hat4 (by omega), hp.2.2.2.1, apart_at hp.2.2.2.2 hat4 (by omega)⟩
          have HU4 := Lib.hid hu4
          have HV4 := Lib.hid hv4'
          have HB4 := Lib.hid B4
          have Hb4 := Lib.hid b4
          have HP4 := Lib.hid P4
          clear HU3 HV3 HB3 Hb3 HP3 hv3 hv4 hg4 hat4 hu4 hv4' b4 P4
          have fcw4_s0 : w4.cell? ⟨w.heap.size, 0, none⟩ = some (.int .u64 s0.toNat) := (B4.head 0 _ rfl).1; have ffw4_s0 : w4.frozen? ⟨w.heap.size, 0, none⟩ = false := (B4.head 0 _ rfl).2; have fcw4_s1 : w4.cell? ⟨w.heap.size, 1, none⟩ = some (.int .u64 s1.toNat) := (B4.head 1 _ rfl).1; have ffw4_s1 : w4.frozen? ⟨w.heap.size, 1, none⟩ = false := (B4.head 1 _ rfl).2; have fcw4_s2 : w4.cell? ⟨w.heap.size, 2, none⟩ = some (.int .u64 s2.toNat) := (B4.head 2 _ rfl).1; have ffw4_s2 : w4.frozen? ⟨w.heap.size, 2, none⟩ = false := (B4.head 2 _ rfl).2; have fcw4_s3 : w4.cell? ⟨w.heap.size, 3, none⟩ = some (.int .u64 s3.toNat) := (B4.head 3 _ rfl).1; have ffw4_s3 : w4.frozen? ⟨w.heap.size, 3, none⟩ = false := (B4.head 3 _ rfl).2; have fcw4_y0 : w4.cell? ⟨wc.heap.size + 1 + 1, 0, none⟩ = some (.int .u64 x0.toNat) := (B4.tail.head 0 _ rfl).1; have ffw4_y0 : w4.frozen? ⟨wc.heap.size + 1 + 1, 0, none⟩ = false := (B4.tail.head 0 _ rfl).2; have fcw4_y1 : w4.cell? ⟨wc.heap.size + 1 + 1, 1, none⟩ = some (.int .u64 x1.toNat) := (B4.tail.head 1 _ rfl).1; have ffw4_y1 : w4.frozen? ⟨wc.heap.size + 1 + 1, 1, none⟩ = false := (B4.tail.head 1 _ rfl).2; have fcw4_y2 : w4.cell? ⟨wc.heap.size + 1 + 1, 2, none⟩ = some (.int .u64 x2.toNat) := (B4.tail.head 2 _ rfl).1; have ffw4_y2 : w4.frozen? ⟨wc.heap.size + 1 + 1, 2, none⟩ = false := (B4.tail.head 2 _ rfl).2; have fcw4_y3 : w4.cell? ⟨wc.heap.size + 1 + 1, 3, none⟩ = some (.int .u64 x3.toNat) := (B4.tail.head 3 _ rfl).1; have ffw4_y3 : w4.frozen? ⟨wc.heap.size + 1 + 1, 3, none⟩ = false := (B4.tail.head 3 _ rfl).2
          clear B4
          go_wp2_with fail
          refine (rxstep_c _ _ _ _ _).mono ?_
          rintro e w5 ⟨rfl, hb5⟩
          have hz5 := hb5.size
          have B5 : Boxes w5 [(w.heap.size, [.int .u64 s0.toNat, .int .u64 s1.toNat, .int .u64 s2.toNat, .int .u64 s3.toNat]), (wc.heap.size + 1 + 1, [.int .u64 x0.toNat, .int .u64 x1.toNat, .int .u64 x2.toNat, .int .u64 x3.toNat])] := HB4.out.below hb5
          have fcw5_s0 : w5.cell? ⟨w.heap.size, 0, none⟩ = some (.int .u64 s0.toNat) := (B5.head 0 _ rfl).1; have ffw5_s0 : w5.frozen? ⟨w.heap.size, 0, none⟩ = false := (B5.head 0 _ rfl).2; have fcw5_s1 : w5.cell? ⟨w.heap.size, 1, none⟩ = some (.int .u64 s1.toNat) := (B5.head 1 _ rfl).1; have ffw5_s1 : w5.frozen? ⟨w.heap.size, 1, none⟩ = false := (B5.head 1 _ rfl).2; have fcw5_s2 : w5.cell? ⟨w.heap.size, 2, none⟩ = some (.int .u64 s2.toNat) := (B5.head 2 _ rfl).1; have ffw5_s2 : w5.frozen? ⟨w.heap.size, 2, none⟩ = false := (B5.head 2 _ rfl).2; have fcw5_s3 : w5.cell? ⟨w.heap.size, 3, none⟩ = some (.int .u64 s3.toNat) := (B5.head 3 _ rfl).1; have ffw5_s3 : w5.frozen? ⟨w.heap.size, 3, none⟩ = false := (B5.head 3 _ rfl).2; have fcw5_y0 : w5.cell? ⟨wc.heap.size + 1 + 1, 0, none⟩ = some (.int .u64 x0.toNat) := (B5.tail.head 0 _ rfl).1; have ffw5_y0 : w5.frozen? ⟨wc.heap.size + 1 + 1, 0, none⟩ = false := (B5.tail.head 0 _ rfl).2; have fcw5_y1 : w5.cell? ⟨wc.heap.size + 1 + 1, 1, none⟩ = some (.int .u64 x1.toNat) := (B5.tail.head 1 _ rfl).1; have ffw5_y1 : w5.frozen? ⟨wc.heap.size + 1 + 1, 1, none⟩ = false := (B5.tail.head 1 _ rfl).2; have fcw5_y2 : w5.cell? ⟨wc.heap.size + 1 + 1, 2, none⟩ = some (.int .u64 x2.toNat) := (B5.tail.head 2 _ rfl).1; have ffw5_y2 : w5.frozen? ⟨wc.heap.size + 1 + 1, 2, none⟩ = false := (B5.tail.head 2 _ rfl).2; have fcw5_y3 : w5.cell? ⟨wc.heap.size + 1 + 1, 3, none⟩ = some (.int .u64 x3.toNat) := (B5.tail.head 3 _ rfl).1; have ffw5_y3 : w5.frozen? ⟨wc.heap.size + 1 + 1, 3, none⟩ = false := (B5.tail.head 3 _ rfl).2
          clear B5
          go_wp2
          go_roundw
          case measure => simp [intOf]; omega
          case rel =>
            have b4 := Hb4.out
            exact ⟨j + 1, Xo.step ⟨x0, x1, x2, x3⟩, by omega, by go_num, Lib.hid (by rw [Xo.it, hx.out]), (Boxes.cons (box4 ⟨by go_simp, by go_simp, by go_simp, by go_simp⟩ ⟨by go_simp, by go_simp, by go_simp, by go_simp⟩) (Boxes.cons (box4 ⟨by go_simp, by go_simp, by go_simp, by go_simp⟩ ⟨by go_simp, by go_simp, by go_simp, by go_simp⟩) (Boxes.nil _))), owns_apart (owns_below HU4.out hb5) (by (repeat' (first | (with_reducible exact World.grownBy.refl _ _) | (with_reducible assumption) | (with_reducible refine gb_alloc ?_ _) | (with_reducible refine gb_drew ?_) | (with_reducible refine gb_drewN ?_ _) | (with_reducible refine gb_set ?_ ?_ _) | (with_reducible refine gb_below ?_ (by assumption)) | (exact Or.inl rfl) | (refine Or.inr ?_) | go_size))) HP4.out.2.2.2.1, owns_apart (owns_below HV4.out hb5) (by (repeat' (first | (with_reducible exact World.grownBy.refl _ _) | (with_reducible assumption) | (with_reducible refine gb_alloc ?_ _) | (with_reducible refine gb_drew ?_) | (with_reducible refine gb_drewN ?_ _) | (with_reducible refine gb_set ?_ ?_ _) | (with_reducible refine gb_below ?_ (by assumption)) | (exact Or.inl rfl) | (refine Or.inr ?_) | go_size))) HP4.out.2.2.2.2, HP4.out, by simp; omega, by (repeat' (first | (with_reducible exact Below.refl _ _) | (with_reducible assumption) | (with_reducible refine Below.alloc ?_ ?_ _) | (with_reducible refine Below.drew ?_) | (with_reducible refine below_drewN ?_ _) | (with_reducible refine Below.setCell ?_ ?_ _) | (with_reducible refine Below.trans ?_ (Below.mono (by assumption) ?_)) | go_size))⟩
        · skip
          have l3 : ¬ (j : Int) < 256 := by omega
          have hv3 := HV.out
          have B3 := HB.out
          have b3 := hb
          have hz3 := hz
          have hu3' : wr.ownsRow wc.heap.size 40 1 u5 (min (j + 1) 256) (u64s (Xo.words (min (j + 1) 256) ⟨s0, s1, s2, s3⟩)) := by
            have e1 : min (j + 1) 256 = min j 256 := by omega
            rw [e1]; exact HU.out
          have P3 := HP.out
          have HU3 := Lib.hid hu3'
          have HV3 := Lib.hid hv3
          have HB3 := Lib.hid B3
          have Hb3 := Lib.hid b3
          have HP3 := Lib.hid P3
          clear HU HV HB HP
          have fcwr_s0 : wr.cell? ⟨w.heap.size, 0, none⟩ = some (.int .u64 s0.toNat) := (B3.head 0 _ rfl).1; have ffwr_s0 : wr.frozen? ⟨w.heap.size, 0, none⟩ = false := (B3.head 0 _ rfl).2; have fcwr_s1 : wr.cell? ⟨w.heap.size, 1, none⟩ = some (.int .u64 s1.toNat) := (B3.head 1 _ rfl).1; have ffwr_s1 : wr.frozen? ⟨w.heap.size, 1, none⟩ = false := (B3.head 1 _ rfl).2; have fcwr_s2 : wr.cell? ⟨w.heap.size, 2, none⟩ = some (.int .u64 s2.toNat) := (B3.head 2 _ rfl).1; have ffwr_s2 : wr.frozen? ⟨w.heap.size, 2, none⟩ = false := (B3.head 2 _ rfl).2; have fcwr_s3 : wr.cell? ⟨w.heap.size, 3, none⟩ = some (.int .u64 s3.toNat) := (B3.head 3 _ rfl).1; have ffwr_s3 : wr.frozen? ⟨w.heap.size, 3, none⟩ = false := (B3.head 3 _ rfl).2; have fcwr_y0 : wr.cell? ⟨wc.heap.size + 1 + 1, 0, none⟩ = some (.int .u64 x0.toNat) := (B3.tail.head 0 _ rfl).1; have ffwr_y0 : wr.frozen? ⟨wc.heap.size + 1 + 1, 0, none⟩ = false := (B3.tail.head 0 _ rfl).2; have fcwr_y1 : wr.cell? ⟨wc.heap.size + 1 + 1, 1, none⟩ = some (.int .u64 x1.toNat) := (B3.tail.head 1 _ rfl).1; have ffwr_y1 : wr.frozen? ⟨wc.heap.size + 1 + 1, 1, none⟩ = false := (B3.tail.head 1 _ rfl).2; have fcwr_y2 : wr.cell? ⟨wc.heap.size + 1 + 1, 2, none⟩ = some (.int .u64 x2.toNat) := (B3.tail.head 2 _ rfl).1; have ffwr_y2 : wr.frozen? ⟨wc.heap.size + 1 + 1, 2, none⟩ = false := (B3.tail.head 2 _ rfl).2; have fcwr_y3 : wr.cell? ⟨wc.heap.size + 1 + 1, 3, none⟩ = some (.int .u64 x3.toNat) := (B3.tail.head 3 _ rfl).1; have ffwr_y3 : wr.frozen? ⟨wc.heap.size + 1 + 1, 3, none⟩ = false := (B3.tail.head 3 _ rfl).2
          have ix : ∀ w, (Instr.index 41 (.agg #[.int .u64 x0.toNat, .int .u64 x1.toNat, .int .u64 x2.toNat, .int .u64 x3.toNat]) (.int .i64 0)).run Try.prog w = .ok (.int .u64 x0.toNat) w := fun _ => by kernel_rfl
          clear B3 P3 hu3' b3
          go_wp2_with (at_builtin; refine wpList_append_own_at _ rfl _ _ 49 rfl wc.heap.size 4 ib (.bool false) 1 1 Try.underlying49 hib hib0 hib1 hib2 rfl (by decide) _ _ _ rfl (hv3.alloc _) ⟨wr.heap.size, 0, none⟩ 1 1 [.bool ((x0.toNat : Int) % 2 == 1)] rfl rfl ?qa ?qb ?qc ?qd ?qe ?_)
          skip
          case qb => first | exact one_bool _ | rfl
          case qc => unfold maxLen; omega
          case qd => omega
          case qe => exact (by first | omega | (simp; done) | (simp; omega))
          intro vb4 w4 hv4 hg4 _ hat4
          have hu4 := owns_away (HU3.out.alloc _) hg4 (away_symm HP3.out.1)
          have B4 : Boxes w4 [(w.heap.size, [.int .u64 s0.toNat, .int .u64 s1.toNat, .int .u64 s2.toNat, .int .u64 s3.toNat]), (wc.heap.size + 1 + 1, [.int .u64 x0.toNat, .int .u64 x1.toNat, .int .u64 x2.toNat, .int .u64 x3.toNat])] := Boxes.apart (HB3.out.alloc _) hg4 (by have := HP3.out; intro q hq; simp at hq; rcases hq with rfl | rfl; exact this.2.2.1; exact this.2.2.2.2)
          have b4 : Below w.heap.size w w4 := Below.grown (Hb3.out.alloc (by omega) _) hg4 (by simp; omega) (fun k e => by have := (HV3.out.lt _ e).1; omega)
          have hz4 : wc.heap.size + 1 + 1 < w4.heap.size := by have := hg4.size; simp at this; omega
          have hv4' : w4.ownsRow wc.heap.size 4 1 vb4 (j + 1) (bools (Xo.bitsL (j + 1) ⟨s0, s1, s2, s3⟩)) := by
            rw [Xo.bits_succ, hx.out, bools_snoc]; exact hv4
          have P4 : Away u5 vb4 ∧ Apart u5 w.heap.size ∧ Apart vb4 w.heap.size ∧ Apart u5 (wc.heap.size + 1 + 1) ∧ Apart vb4 (wc.heap.size + 1 + 1) := by
            have hp := HP3.out
            exact ⟨away_symm (away_at (away_symm hp.1) hat4 HU3.out (by omega)), hp.2.1, apart_at hp.2.2.1 hat4 (by omega), hp.2.2.2.1, apart_at hp.2.2.2.2 hat4 (by omega)⟩
          have HU4 := Lib.hid hu4
          have HV4 := Lib.hid hv4'
          have HB4 := Lib.hid B4
          have Hb4 := Lib.hid b4
          have HP4 := Lib.hid P4
          clear HU3 HV3 HB3 Hb3 HP3 hv3 hv4 hg4 hat4 hu4 hv4' b4 P4
          have fcw4_s0 : w4.cell? ⟨w.heap.size, 0, none⟩ = some (.int .u64 s0.toNat) := (B4.head 0 _ rfl).1; have ffw4_s0 : w4.frozen? ⟨w.heap.size, 0, none⟩ = false := (B4.head 0 _ rfl).2; have fcw4_s1 : w4.cell? ⟨w.heap.size, 1, none⟩ = some (.int .u64 s1.toNat) := (B4.head 1 _ rfl).1; have ffw4_s1 : w4.frozen? ⟨w.heap.size, 1, none⟩ = false := (B4.head 1 _ rfl).2; have fcw4_s2 : w4.cell? ⟨w.heap.size, 2, none⟩ = some (.int .u64 s2.toNat) := (B4.head 2 _ rfl).1; have ffw4_s2 : w4.frozen? ⟨w.heap.size, 2, none⟩ = false := (B4.head 2 _ rfl).2; have fcw4_s3 : w4.cell? ⟨w.heap.size, 3, none⟩ = some (.int .u64 s3.toNat) := (B4.head 3 _ rfl).1; have ffw4_s3 : w4.frozen? ⟨w.heap.size, 3, none⟩ = false := (B4.head 3 _ rfl).2; have fcw4_y0 : w4.cell? ⟨wc.heap.size + 1 + 1, 0, none⟩ = some (.int .u64 x0.toNat) := (B4.tail.head 0 _ rfl).1; have ffw4_y0 : w4.frozen? ⟨wc.heap.size + 1 + 1, 0, none⟩ = false := (B4.tail.head 0 _ rfl).2; have fcw4_y1 : w4.cell? ⟨wc.heap.size + 1 + 1, 1, none⟩ = some (.int .u64 x1.toNat) := (B4.tail.head 1 _ rfl).1; have ffw4_y1 : w4.frozen? ⟨wc.heap.size + 1 + 1, 1, none⟩ = false := (B4.tail.head 1 _ rfl).2; have fcw4_y2 : w4.cell? ⟨wc.heap.size + 1 + 1, 2, none⟩ = some (.int .u64 x2.toNat) := (B4.tail.head 2 _ rfl).1; have ffw4_y2 : w4.frozen? ⟨wc.heap.size + 1 + 1, 2, none⟩ = false := (B4.tail.head 2 _ rfl).2; have fcw4_y3 : w4.cell? ⟨wc.heap.size + 1 + 1, 3, none⟩ = some (.int .u64 x3.toNat) := (B4.tail.head 3 _ rfl).1; have ffw4_y3 : w4.frozen? ⟨wc.heap.size + 1 + 1, 3, none⟩ = false := (B4.tail.head 3 _ rfl).2
          clear B4
          go_wp2_with fail
          refine (rxstep_c _ _ _ _ _).mono ?_
          rintro e w5 ⟨rfl, hb5⟩
          have hz5 := hb5.size
          have B5 : Boxes w5 [(w.heap.size, [.int .u64 s0.toNat, .int .u64 s1.toNat, .int .u64 s2.toNat, .int .u64 s3.toNat]), (wc.heap.size + 1 + 1, [.int .u64 x0.toNat, .int .u64 x1.toNat, .int .u64 x2.toNat, .int .u64 x3.toNat])] := HB4.out.below hb5
          have fcw5_s0 : w5.cell? ⟨w.heap.size, 0, none⟩ = some (.int .u64 s0.toNat) := (B5.head 0 _ rfl).1; have ffw5_s0 : w5.frozen? ⟨w.heap.size, 0, none⟩ = false := (B5.head 0 _ rfl).2; have fcw5_s1 : w5.cell? ⟨w.heap.size, 1, none⟩ = some (.int .u64 s1.toNat) := (B5.head 1 _ rfl).1; have ffw5_s1 : w5.frozen? ⟨w.heap.size, 1, none⟩ = false := (B5.head 1 _ rfl).2; have fcw5_s2 : w5.cell? ⟨w.heap.size, 2, none⟩ = some (.int .u64 s2.toNat) := (B5.head 2 _ rfl).1; have ffw5_s2 : w5.frozen? ⟨w.heap.size, 2, none⟩ = false := (B5.head 2 _ rfl).2; have fcw5_s3 : w5.cell? ⟨w.heap.size, 3, none⟩ = some (.int .u64 s3.toNat) := (B5.head 3 _ rfl).1; have ffw5_s3 : w5.frozen? ⟨w.heap.size, 3, none⟩ = false := (B5.head 3 _ rfl).2; have fcw5_y0 : w5.cell? ⟨wc.heap.size + 1 + 1, 0, none⟩ = some (.int .u64 x0.toNat) := (B5.tail.head 0 _ rfl).1; have ffw5_y0 : w5.frozen? ⟨wc.heap.size + 1 + 1, 0, none⟩ = false := (B5.tail.head 0 _ rfl).2; have fcw5_y1 : w5.cell? ⟨wc.heap.size + 1 + 1, 1, none⟩ = some (.int .u64 x1.toNat) := (B5.tail.head 1 _ rfl).1; have ffw5_y1 : w5.frozen? ⟨wc.heap.size + 1 + 1, 1, none⟩ = false := (B5.tail.head 1 _ rfl).2; have fcw5_y2 : w5.cell? ⟨wc.heap.size + 1 + 1, 2, none⟩ = some (.int .u64 x2.toNat) := (B5.tail.head 2 _ rfl).1; have ffw5_y2 : w5.frozen? ⟨wc.heap.size + 1 + 1, 2, none⟩ = false := (B5.tail.head 2 _ rfl).2; have fcw5_y3 : w5.cell? ⟨wc.heap.size + 1 + 1, 3, none⟩ = some (.int .u64 x3.toNat) := (B5.tail.head 3 _ rfl).1; have ffw5_y3 : w5.frozen? ⟨wc.heap.size + 1 + 1, 3, none⟩ = false := (B5.tail.head 3 _ rfl).2
          clear B5
          go_wp2
          go_roundw
          case measure => simp [intOf]; omega
          case rel =>
            have b4 := Hb4.out
            exact ⟨j + 1, Xo.step ⟨x0, x1, x2, x3⟩, by omega, by go_num, Lib.hid (by rw [Xo.it, hx.out]), (Boxes.cons (box4 ⟨by go_simp, by go_simp, by go_simp, by go_simp⟩ ⟨by go_simp, by go_simp, by go_simp, by go_simp⟩) (Boxes.cons (box4 ⟨by go_simp, by go_simp, by go_simp, by go_simp⟩ ⟨by go_simp, by go_simp, by go_simp, by go_simp⟩) (Boxes.nil _))), owns_apart (owns_below HU4.out hb5) (by (repeat' (first | (with_reducible exact World.grownBy.refl _ _) | (with_reducible assumption) | (with_reducible refine gb_alloc ?_ _) | (with_reducible refine gb_drew ?_) | (with_reducible refine gb_drewN ?_ _) | (with_reducible refine gb_set ?_ ?_ _) | (with_reducible refine gb_below ?_ (by assumption)) | (exact Or.inl rfl) | (refine Or.inr ?_) | go_size))) HP4.out.2.2.2.1, owns_apart (owns_below HV4.out hb5) (by (repeat' (first | (with_reducible exact World.grownBy.refl _ _) | (with_reducible assumption) | (with_reducible refine gb_alloc ?_ _) | (with_reducible refine gb_drew ?_) | (with_reducible refine gb_drewN ?_ _) | (with_reducible refine gb_set ?_ ?_ _) | (with_reducible refine gb_below ?_ (by assumption)) | (exact Or.inl rfl) | (refine Or.inr ?_) | go_size))) HP4.out.2.2.2.2, HP4.out, by simp; omega, by (repeat' (first | (with_reducible exact Below.refl _ _) | (with_reducible assumption) | (with_reducible refine Below.alloc ?_ ?_ _) | (with_reducible refine Below.drew ?_) | (with_reducible refine below_drewN ?_ _) | (with_reducible refine Below.setCell ?_ ?_ _) | (with_reducible refine Below.trans ?_ (Below.mono (by assumption) ?_)) | go_size))⟩
      · obtain rfl : n = j := by omega
        have hn3 := HN3.out
        clear HN3 HP
        rcases hn3 with ⟨hm, hn0⟩ | ⟨hm, hn0⟩ | hm
        · skip
          have nm : ¬ (n : Int) < m := by omega
          have nm2 : m < 0 := by omega
          have nm3 : ¬ (0 : Int) ≤ m := by omega
          go_wp2_with fail
          refine (D6.out _).mono ?_
          rintro e w2 ⟨rfl, hb2⟩
          have hz2 := hb2.size
          have B2 := HB.out.below hb2
          have fcw2_s0 : w2.cell? ⟨w.heap.size, 0, none⟩ = some (.int .u64 s0.toNat) := (B2.head 0 _ rfl).1; have ffw2_s0 : w2.frozen? ⟨w.heap.size, 0, none⟩ = false := (B2.head 0 _ rfl).2; have fcw2_s1 : w2.cell? ⟨w.heap.size, 1, none⟩ = some (.int .u64 s1.toNat) := (B2.head 1 _ rfl).1; have ffw2_s1 : w2.frozen? ⟨w.heap.size, 1, none⟩ = false := (B2.head 1 _ rfl).2; have fcw2_s2 : w2.cell? ⟨w.heap.size, 2, none⟩ = some (.int .u64 s2.toNat) := (B2.head 2 _ rfl).1; have ffw2_s2 : w2.frozen? ⟨w.heap.size, 2, none⟩ = false := (B2.head 2 _ rfl).2; have fcw2_s3 : w2.cell? ⟨w.heap.size, 3, none⟩ = some (.int .u64 s3.toNat) := (B2.head 3 _ rfl).1; have ffw2_s3 : w2.frozen? ⟨w.heap.size, 3, none⟩ = false := (B2.head 3 _ rfl).2; have fcw2_y0 : w2.cell? ⟨wc.heap.size + 1 + 1, 0, none⟩ = some (.int .u64 x0.toNat) := (B2.tail.head 0 _ rfl).1; have ffw2_y0 : w2.frozen? ⟨wc.heap.size + 1 + 1, 0, none⟩ = false := (B2.tail.head 0 _ rfl).2; have fcw2_y1 : w2.cell? ⟨wc.heap.size + 1 + 1, 1, none⟩ = some (.int .u64 x1.toNat) := (B2.tail.head 1 _ rfl).1; have ffw2_y1 : w2.frozen? ⟨wc.heap.size + 1 + 1, 1, none⟩ = false := (B2.tail.head 1 _ rfl).2; have fcw2_y2 : w2.cell? ⟨wc.heap.size + 1 + 1, 2, none⟩ = some (.int .u64 x2.toNat) := (B2.tail.head 2 _ rfl).1; have ffw2_y2 : w2.frozen? ⟨wc.heap.size + 1 + 1, 2, none⟩ = false := (B2.tail.head 2 _ rfl).2; have fcw2_y3 : w2.cell? ⟨wc.heap.size + 1 + 1, 3, none⟩ = some (.int .u64 x3.toNat) := (B2.tail.head 3 _ rfl).1; have ffw2_y3 : w2.frozen? ⟨wc.heap.size + 1 + 1, 3, none⟩ = false := (B2.tail.head 3 _ rfl).2
          have HB2 := Lib.hid B2
          clear B2
          go_wp2_with fail
          refine (xbits_no m (by omega) _ _ _ _ _).mono ?_
          rintro e w3 ⟨rfl, hb3⟩
          have hz3 := hb3.size; (try simp at hz3)
          have kc3w_heap_size_0 : w3.cell? ⟨w.heap.size, 0, none⟩ = some (.int .u64 s0.toNat) := (hb3.cell (p := ⟨w.heap.size, 0, none⟩) (by first | omega | (simp; done) | (simp; omega))).trans (by go_simp); have kf3w_heap_size_0 : w3.frozen? ⟨w.heap.size, 0, none⟩ = false := (hb3.frozen (p := ⟨w.heap.size, 0, none⟩) (by first | omega | (simp; done) | (simp; omega))).trans (by go_simp); have kc3w_heap_size_1 : w3.cell? ⟨w.heap.size, 1, none⟩ = some (.int .u64 s1.toNat) := (hb3.cell (p := ⟨w.heap.size, 1, none⟩) (by first | omega | (simp; done) | (simp; omega))).trans (by go_simp); have kf3w_heap_size_1 : w3.frozen? ⟨w.heap.size, 1, none⟩ = false := (hb3.frozen (p := ⟨w.heap.size, 1, none⟩) (by first | omega | (simp; done) | (simp; omega))).trans (by go_simp); have kc3w_heap_size_2 : w3.cell? ⟨w.heap.size, 2, none⟩ = some (.int .u64 s2.toNat) := (hb3.cell (p := ⟨w.heap.size, 2, none⟩) (by first | omega | (simp; done) | (simp; omega))).trans (by go_simp); have kf3w_heap_size_2 : w3.frozen? ⟨w.heap.size, 2, none⟩ = false := (hb3.frozen (p := ⟨w.heap.size, 2, none⟩) (by first | omega | (simp; done) | (simp; omega))).trans (by go_simp); have kc3w_heap_size_3 : w3.cell? ⟨w.heap.size, 3, none⟩ = some (.int .u64 s3.toNat) := (hb3.cell (p := ⟨w.heap.size, 3, none⟩) (by first | omega | (simp; done) | (simp; omega))).trans (by go_simp); have kf3w_heap_size_3 : w3.frozen? ⟨w.heap.size, 3, none⟩ = false := (hb3.frozen (p := ⟨w.heap.size, 3, none⟩) (by first | omega | (simp; done) | (simp; omega))).trans (by go_simp)
          have kc3wc_heap_size___1___1_0 : w3.cell? ⟨wc.heap.size + 1 + 1, 0, none⟩ = some (.int .u64 x0.toNat) := (hb3.cell (p := ⟨wc.heap.size + 1 + 1, 0, none⟩) (by first | omega | (simp; done) | (simp; omega))).trans (by go_simp); have kf3wc_heap_size___1___1_0 : w3.frozen? ⟨wc.heap.size + 1 + 1, 0, none⟩ = false := (hb3.frozen (p := ⟨wc.heap.size + 1 + 1, 0, none⟩) (by first | omega | (simp; done) | (simp; omega))).trans (by go_simp); have kc3wc_heap_size___1___1_1 : w3.cell? ⟨wc.heap.size + 1 + 1, 1, none⟩ = some (.int .u64 x1.toNat) := (hb3.cell (p := ⟨wc.heap.size + 1 + 1, 1, none⟩) (by first | omega | (simp; done) | (simp; omega))).trans (by go_simp); have kf3wc_heap_size___1___1_1 : w3.frozen? ⟨wc.heap.size + 1 + 1, 1, none⟩ = false := (hb3.frozen (p := ⟨wc.heap.size + 1 + 1, 1, none⟩) (by first | omega | (simp; done) | (simp; omega))).trans (by go_simp); have kc3wc_heap_size___1___1_2 : w3.cell? ⟨wc.heap.size + 1 + 1, 2, none⟩ = some (.int .u64 x2.toNat) := (hb3.cell (p := ⟨wc.heap.size + 1 + 1, 2, none⟩) (by first | omega | (simp; done) | (simp; omega))).trans (by go_simp); have kf3wc_heap_size___1___1_2 : w3.frozen? ⟨wc.heap.size + 1 + 1, 2, none⟩ = false := (hb3.frozen (p := ⟨wc.heap.size + 1 + 1, 2, none⟩) (by first | omega | (simp; done) | (simp; omega))).trans (by go_simp); have kc3wc_heap_size___1___1_3 : w3.cell? ⟨wc.heap.size + 1 + 1, 3, none⟩ = some (.int .u64 x3.toNat) := (hb3.cell (p := ⟨wc.heap.size + 1 + 1, 3, none⟩) (by first | omega | (simp; done) | (simp; omega))).trans (by go_simp); have kf3wc_heap_size___1___1_3 : w3.frozen? ⟨wc.heap.size + 1 + 1, 3, none⟩ = false := (hb3.frozen (p := ⟨wc.heap.size + 1 + 1, 3, none⟩) (by first | omega | (simp; done) | (simp; omega))).trans (by go_simp)
          have kc3w2_heap_size_0 : w3.cell? ⟨w2.heap.size, 0, none⟩ = some (.int .u64 0) := (hb3.cell (p := ⟨w2.heap.size, 0, none⟩) (by first | omega | (simp; done) | (simp; omega))).trans (by go_simp); have kf3w2_heap_size_0 : w3.frozen? ⟨w2.heap.size, 0, none⟩ = false := (hb3.frozen (p := ⟨w2.heap.size, 0, none⟩) (by first | omega | (simp; done) | (simp; omega))).trans (by go_simp); have kc3w2_heap_size_1 : w3.cell? ⟨w2.heap.size, 1, none⟩ = some (.int .u64 0) := (hb3.cell (p := ⟨w2.heap.size, 1, none⟩) (by first | omega | (simp; done) | (simp; omega))).trans (by go_simp); have kf3w2_heap_size_1 : w3.frozen? ⟨w2.heap.size, 1, none⟩ = false := (hb3.frozen (p := ⟨w2.heap.size, 1, none⟩) (by first | omega | (simp; done) | (simp; omega))).trans (by go_simp); have kc3w2_heap_size_2 : w3.cell? ⟨w2.heap.size, 2, none⟩ = some (.int .u64 0) := (hb3.cell (p := ⟨w2.heap.size, 2, none⟩) (by first | omega | (simp; done) | (simp; omega))).trans (by go_simp); have kf3w2_heap_size_2 : w3.frozen? ⟨w2.heap.size, 2, none⟩ = false := (hb3.frozen (p := ⟨w2.heap.size, 2, none⟩) (by first | omega | (simp; done) | (simp; omega))).trans (by go_simp); have kc3w2_heap_size_3 : w3.cell? ⟨w2.heap.size, 3, none⟩ = some (.int .u64 0) := (hb3.cell (p := ⟨w2.heap.size, 3, none⟩) (by first | omega | (simp; done) | (simp; omega))).trans (by go_simp); have kf3w2_heap_size_3 : w3.frozen? ⟨w2.heap.size, 3, none⟩ = false := (hb3.frozen (p := ⟨w2.heap.size, 3, none⟩) (by first | omega | (simp; done) | (simp; omega))).trans (by go_simp)
          go_wp2_with fail
          refine (D5.out _).mono ?_
          rintro e w5 ⟨rfl, hb5⟩
          have hz5 := hb5.size; (try simp at hz5)
          have kc5wc_heap_size___1___1_0 : w5.cell? ⟨wc.heap.size + 1 + 1, 0, none⟩ = some (.int .u64 x0.toNat) := (hb5.cell (p := ⟨wc.heap.size + 1 + 1, 0, none⟩) (by first | omega | (simp; done) | (simp; omega))).trans (by go_simp); have kf5wc_heap_size___1___1_0 : w5.frozen? ⟨wc.heap.size + 1 + 1, 0, none⟩ = false := (hb5.frozen (p := ⟨wc.heap.size + 1 + 1, 0, none⟩) (by first | omega | (simp; done) | (simp; omega))).trans (by go_simp); have kc5wc_heap_size___1___1_1 : w5.cell? ⟨wc.heap.size + 1 + 1, 1, none⟩ = some (.int .u64 x1.toNat) := (hb5.cell (p := ⟨wc.heap.size + 1 + 1, 1, none⟩) (by first | omega | (simp; done) | (simp; omega))).trans (by go_simp); have kf5wc_heap_size___1___1_1 : w5.frozen? ⟨wc.heap.size + 1 + 1, 1, none⟩ = false := (hb5.frozen (p := ⟨wc.heap.size + 1 + 1, 1, none⟩) (by first | omega | (simp; done) | (simp; omega))).trans (by go_simp); have kc5wc_heap_size___1___1_2 : w5.cell? ⟨wc.heap.size + 1 + 1, 2, none⟩ = some (.int .u64 x2.toNat) := (hb5.cell (p := ⟨wc.heap.size + 1 + 1, 2, none⟩) (by first | omega | (simp; done) | (simp; omega))).trans (by go_simp); have kf5wc_heap_size___1___1_2 : w5.frozen? ⟨wc.heap.size + 1 + 1, 2, none⟩ = false := (hb5.frozen (p := ⟨wc.heap.size + 1 + 1, 2, none⟩) (by first | omega | (simp; done) | (simp; omega))).trans (by go_simp); have kc5wc_heap_size___1___1_3 : w5.cell? ⟨wc.heap.size + 1 + 1, 3, none⟩ = some (.int .u64 x3.toNat) := (hb5.cell (p := ⟨wc.heap.size + 1 + 1, 3, none⟩) (by first | omega | (simp; done) | (simp; omega))).trans (by go_simp); have kf5wc_heap_size___1___1_3 : w5.frozen? ⟨wc.heap.size + 1 + 1, 3, none⟩ = false := (hb5.frozen (p := ⟨wc.heap.size + 1 + 1, 3, none⟩) (by first | omega | (simp; done) | (simp; omega))).trans (by go_simp)
          have kc5w2_heap_size_0 : w5.cell? ⟨w2.heap.size, 0, none⟩ = some (.int .u64 0) := (hb5.cell (p := ⟨w2.heap.size, 0, none⟩) (by first | omega | (simp; done) | (simp; omega))).trans (by go_simp); have kf5w2_heap_size_0 : w5.frozen? ⟨w2.heap.size, 0, none⟩ = false := (hb5.frozen (p := ⟨w2.heap.size, 0, none⟩) (by first | omega | (simp; done) | (simp; omega))).trans (by go_simp); have kc5w2_heap_size_1 : w5.cell? ⟨w2.heap.size, 1, none⟩ = some (.int .u64 0) := (hb5.cell (p := ⟨w2.heap.size, 1, none⟩) (by first | omega | (simp; done) | (simp; omega))).trans (by go_simp); have kf5w2_heap_size_1 : w5.frozen? ⟨w2.heap.size, 1, none⟩ = false := (hb5.frozen (p := ⟨w2.heap.size, 1, none⟩) (by first | omega | (simp; done) | (simp; omega))).trans (by go_simp); have kc5w2_heap_size_2 : w5.cell? ⟨w2.heap.size, 2, none⟩ = some (.int .u64 0) := (hb5.cell (p := ⟨w2.heap.size, 2, none⟩) (by first | omega | (simp; done) | (simp; omega))).trans (by go_simp); have kf5w2_heap_size_2 : w5.frozen? ⟨w2.heap.size, 2, none⟩ = false := (hb5.frozen (p := ⟨w2.heap.size, 2, none⟩) (by first | omega | (simp; done) | (simp; omega))).trans (by go_simp); have kc5w2_heap_size_3 : w5.cell? ⟨w2.heap.size, 3, none⟩ = some (.int .u64 0) := (hb5.cell (p := ⟨w2.heap.size, 3, none⟩) (by first | omega | (simp; done) | (simp; omega))).trans (by go_simp); have kf5w2_heap_size_3 : w5.frozen? ⟨w2.heap.size, 3, none⟩ = false := (hb5.frozen (p := ⟨w2.heap.size, 3, none⟩) (by first | omega | (simp; done) | (simp; omega))).trans (by go_simp)
          go_wp2
          go_ret
          exact ⟨rfl, by (repeat' (first | (with_reducible exact Below.refl _ _) | (with_reducible assumption) | (with_reducible refine Below.alloc ?_ ?_ _) | (with_reducible refine Below.drew ?_) | (with_reducible refine below_drewN ?_ _) | (with_reducible refine Below.setCell ?_ ?_ _) | (with_reducible refine Below.trans ?_ (Below.mono (by assumption) ?_)) | go_size))⟩
        · skip
          have nm : (n : Int) < m := by omega
          have nm2 : ¬ m ≤ 2048 := by omega
          have nm3 : (2048 : Int) < m := by omega
          have nm4 : ¬ m < 0 := by omega
          have nm5 : (0 : Int) ≤ m := by omega
          have nm6 : (256 : Int) < m := by omega
          go_wp2_with fail
          refine (D6.out _).mono ?_
          rintro e w2 ⟨rfl, hb2⟩
          have hz2 := hb2.size
          have B2 := HB.out.below hb2
          have fcw2_s0 : w2.cell? ⟨w.heap.size, 0, none⟩ = some (.int .u64 s0.toNat) := (B2.head 0 _ rfl).1; have ffw2_s0 : w2.frozen? ⟨w.heap.size, 0, none⟩ = false := (B2.head 0 _ rfl).2; have fcw2_s1 : w2.cell? ⟨w.heap.size, 1, none⟩ = some (.int .u64 s1.toNat) := (B2.head 1 _ rfl).1; have ffw2_s1 : w2.frozen? ⟨w.heap.size, 1, none⟩ = false := (B2.head 1 _ rfl).2; have fcw2_s2 : w2.cell? ⟨w.heap.size, 2, none⟩ = some (.int .u64 s2.toNat) := (B2.head 2 _ rfl).1; have ffw2_s2 : w2.frozen? ⟨w.heap.size, 2, none⟩ = false := (B2.head 2 _ rfl).2; have fcw2_s3 : w2.cell? ⟨w.heap.size, 3, none⟩ = some (.int .u64 s3.toNat) := (B2.head 3 _ rfl).1; have ffw2_s3 : w2.frozen? ⟨w.heap.size, 3, none⟩ = false := (B2.head 3 _ rfl).2; have fcw2_y0 : w2.cell? ⟨wc.heap.size + 1 + 1, 0, none⟩ = some (.int .u64 x0.toNat) := (B2.tail.head 0 _ rfl).1; have ffw2_y0 : w2.frozen? ⟨wc.heap.size + 1 + 1, 0, none⟩ = false := (B2.tail.head 0 _ rfl).2; have fcw2_y1 : w2.cell? ⟨wc.heap.size + 1 + 1, 1, none⟩ = some (.int .u64 x1.toNat) := (B2.tail.head 1 _ rfl).1; have ffw2_y1 : w2.frozen? ⟨wc.heap.size + 1 + 1, 1, none⟩ = false := (B2.tail.head 1 _ rfl).2; have fcw2_y2 : w2.cell? ⟨wc.heap.size + 1 + 1, 2, none⟩ = some (.int .u64 x2.toNat) := (B2.tail.head 2 _ rfl).1; have ffw2_y2 : w2.frozen? ⟨wc.heap.size + 1 + 1, 2, none⟩ = false := (B2.tail.head 2 _ rfl).2; have fcw2_y3 : w2.cell? ⟨wc.heap.size + 1 + 1, 3, none⟩ = some (.int .u64 x3.toNat) := (B2.tail.head 3 _ rfl).1; have ffw2_y3 : w2.frozen? ⟨wc.heap.size + 1 + 1, 3, none⟩ = false := (B2.tail.head 3 _ rfl).2
          have HB2 := Lib.hid B2
          clear B2
          go_wp2_with fail
          refine (xbits_no m (by omega) _ _ _ _ _).mono ?_
          rintro e w3 ⟨rfl, hb3⟩
          have hz3 := hb3.size; (try simp at hz3)
          have kc3w_heap_size_0 : w3.cell? ⟨w.heap.size, 0, none⟩ = some (.int .u64 s0.toNat) := (hb3.cell (p := ⟨w.heap.size, 0, none⟩) (by first | omega | (simp; done) | (simp; omega))).trans (by go_simp); have kf3w_heap_size_0 : w3.frozen? ⟨w.heap.size, 0, none⟩ = false := (hb3.frozen (p := ⟨w.heap.size, 0, none⟩) (by first | omega | (simp; done) | (simp; omega))).trans (by go_simp); have kc3w_heap_size_1 : w3.cell? ⟨w.heap.size, 1, none⟩ = some (.int .u64 s1.toNat) := (hb3.cell (p := ⟨w.heap.size, 1, none⟩) (by first | omega | (simp; done) | (simp; omega))).trans (by go_simp); have kf3w_heap_size_1 : w3.frozen? ⟨w.heap.size, 1, none⟩ = false := (hb3.frozen (p := ⟨w.heap.size, 1, none⟩) (by first | omega | (simp; done) | (simp; omega))).trans (by go_simp); have kc3w_heap_size_2 : w3.cell? ⟨w.heap.size, 2, none⟩ = some (.int .u64 s2.toNat) := (hb3.cell (p := ⟨w.heap.size, 2, none⟩) (by first | omega | (simp; done) | (simp; omega))).trans (by go_simp); have kf3w_heap_size_2 : w3.frozen? ⟨w.heap.size, 2, none⟩ = false := (hb3.frozen (p := ⟨w.heap.size, 2, none⟩) (by first | omega | (simp; done) | (simp; omega))).trans (by go_simp); have kc3w_heap_size_3 : w3.cell? ⟨w.heap.size, 3, none⟩ = some (.int .u64 s3.toNat) := (hb3.cell (p := ⟨w.heap.size, 3, none⟩) (by first | omega | (simp; done) | (simp; omega))).trans (by go_simp); have kf3w_heap_size_3 : w3.frozen? ⟨w.heap.size, 3, none⟩ = false := (hb3.frozen (p := ⟨w.heap.size, 3, none⟩) (by first | omega | (simp; done) | (simp; omega))).trans (by go_simp)
          have kc3wc_heap_size___1___1_0 : w3.cell? ⟨wc.heap.size + 1 + 1, 0, none⟩ = some (.int .u64 x0.toNat) := (hb3.cell (p := ⟨wc.heap.size + 1 + 1, 0, none⟩) (by first | omega | (simp; done) | (simp; omega))).trans (by go_simp); have kf3wc_heap_size___1___1_0 : w3.frozen? ⟨wc.heap.size + 1 + 1, 0, none⟩ = false := (hb3.frozen (p := ⟨wc.heap.size + 1 + 1, 0, none⟩) (by first | omega | (simp; done) | (simp; omega))).trans (by go_simp); have kc3wc_heap_size___1___1_1 : w3.cell? ⟨wc.heap.size + 1 + 1, 1, none⟩ = some (.int .u64 x1.toNat) := (hb3.cell (p := ⟨wc.heap.size + 1 + 1, 1, none⟩) (by first | omega | (simp; done) | (simp; omega))).trans (by go_simp); have kf3wc_heap_size___1___1_1 : w3.frozen? ⟨wc.heap.size + 1 + 1, 1, none⟩ = false := (hb3.frozen (p := ⟨wc.heap.size + 1 + 1, 1, none⟩) (by first | omega | (simp; done) | (simp; omega))).trans (by go_simp); have kc3wc_heap_size___1___1_2 : w3.cell? ⟨wc.heap.size + 1 + 1, 2, none⟩ = some (.int .u64 x2.toNat) := (hb3.cell (p := ⟨wc.heap.size + 1 + 1, 2, none⟩) (by first | omega | (simp; done) | (simp; omega))).trans (by go_simp); have kf3wc_heap_size___1___1_2 : w3.frozen? ⟨wc.heap.size + 1 + 1, 2, none⟩ = false := (hb3.frozen (p := ⟨wc.heap.size + 1 + 1, 2, none⟩) (by first | omega | (simp; done) | (simp; omega))).trans (by go_simp); have kc3wc_heap_size___1___1_3 : w3.cell? ⟨wc.heap.size + 1 + 1, 3, none⟩ = some (.int .u64 x3.toNat) := (hb3.cell (p := ⟨wc.heap.size + 1 + 1, 3, none⟩) (by first | omega | (simp; done) | (simp; omega))).trans (by go_simp); have kf3wc_heap_size___1___1_3 : w3.frozen? ⟨wc.heap.size + 1 + 1, 3, none⟩ = false := (hb3.frozen (p := ⟨wc.heap.size + 1 + 1, 3, none⟩) (by first | omega | (simp; done) | (simp; omega))).trans (by go_simp)
          have kc3w2_heap_size_0 : w3.cell? ⟨w2.heap.size, 0, none⟩ = some (.int .u64 0) := (hb3.cell (p := ⟨w2.heap.size, 0, none⟩) (by first | omega | (simp; done) | (simp; omega))).trans (by go_simp); have kf3w2_heap_size_0 : w3.frozen? ⟨w2.heap.size, 0, none⟩ = false := (hb3.frozen (p := ⟨w2.heap.size, 0, none⟩) (by first | omega | (simp; done) | (simp; omega))).trans (by go_simp); have kc3w2_heap_size_1 : w3.cell? ⟨w2.heap.size, 1, none⟩ = some (.int .u64 0) := (hb3.cell (p := ⟨w2.heap.size, 1, none⟩) (by first | omega | (simp; done) | (simp; omega))).trans (by go_simp); have kf3w2_heap_size_1 : w3.frozen? ⟨w2.heap.size, 1, none⟩ = false := (hb3.frozen (p := ⟨w2.heap.size, 1, none⟩) (by first | omega | (simp; done) | (simp; omega))).trans (by go_simp); have kc3w2_heap_size_2 : w3.cell? ⟨w2.heap.size, 2, none⟩ = some (.int .u64 0) := (hb3.cell (p := ⟨w2.heap.size, 2, none⟩) (by first | omega | (simp; done) | (simp; omega))).trans (by go_simp); have kf3w2_heap_size_2 : w3.frozen? ⟨w2.heap.size, 2, none⟩ = false := (hb3.frozen (p := ⟨w2.heap.size, 2, none⟩) (by first | omega | (simp; done) | (simp; omega))).trans (by go_simp); have kc3w2_heap_size_3 : w3.cell? ⟨w2.heap.size, 3, none⟩ = some (.int .u64 0) := (hb3.cell (p := ⟨w2.heap.size, 3, none⟩) (by first | omega | (simp; done) | (simp; omega))).trans (by go_simp); have kf3w2_heap_size_3 : w3.frozen? ⟨w2.heap.size, 3, none⟩ = false := (hb3.frozen (p := ⟨w2.heap.size, 3, none⟩) (by first | omega | (simp; done) | (simp; omega))).trans (by go_simp)
          go_wp2_with fail
          refine (D5.out _).mono ?_
          rintro e w5 ⟨rfl, hb5⟩
          have hz5 := hb5.size; (try simp at hz5)
          have kc5wc_heap_size___1___1_0 : w5.cell? ⟨wc.heap.size + 1 + 1, 0, none⟩ = some (.int .u64 x0.toNat) := (hb5.cell (p := ⟨wc.heap.size + 1 + 1, 0, none⟩) (by first | omega | (simp; done) | (simp; omega))).trans (by go_simp); have kf5wc_heap_size___1___1_0 : w5.frozen? ⟨wc.heap.size + 1 + 1, 0, none⟩ = false := (hb5.frozen (p := ⟨wc.heap.size + 1 + 1, 0, none⟩) (by first | omega | (simp; done) | (simp; omega))).trans (by go_simp); have kc5wc_heap_size___1___1_1 : w5.cell? ⟨wc.heap.size + 1 + 1, 1, none⟩ = some (.int .u64 x1.toNat) := (hb5.cell (p := ⟨wc.heap.size + 1 + 1, 1, none⟩) (by first | omega | (simp; done) | (simp; omega))).trans (by go_simp); have kf5wc_heap_size___1___1_1 : w5.frozen? ⟨wc.heap.size + 1 + 1, 1, none⟩ = false := (hb5.frozen (p := ⟨wc.heap.size + 1 + 1, 1, none⟩) (by first | omega | (simp; done) | (simp; omega))).trans (by go_simp); have kc5wc_heap_size___1___1_2 : w5.cell? ⟨wc.heap.size + 1 + 1, 2, none⟩ = some (.int .u64 x2.toNat) := (hb5.cell (p := ⟨wc.heap.size + 1 + 1, 2, none⟩) (by first | omega | (simp; done) | (simp; omega))).trans (by go_simp); have kf5wc_heap_size___1___1_2 : w5.frozen? ⟨wc.heap.size + 1 + 1, 2, none⟩ = false := (hb5.frozen (p := ⟨wc.heap.size + 1 + 1, 2, none⟩) (by first | omega | (simp; done) | (simp; omega))).trans (by go_simp); have kc5wc_heap_size___1___1_3 : w5.cell? ⟨wc.heap.size + 1 + 1, 3, none⟩ = some (.int .u64 x3.toNat) := (hb5.cell (p := ⟨wc.heap.size + 1 + 1, 3, none⟩) (by first | omega | (simp; done) | (simp; omega))).trans (by go_simp); have kf5wc_heap_size___1___1_3 : w5.frozen? ⟨wc.heap.size + 1 + 1, 3, none⟩ = false := (hb5.frozen (p := ⟨wc.heap.size + 1 + 1, 3, none⟩) (by first | omega | (simp; done) | (simp; omega))).trans (by go_simp)
          have kc5w2_heap_size_0 : w5.cell? ⟨w2.heap.size, 0, none⟩ = some (.int .u64 0) := (hb5.cell (p := ⟨w2.heap.size, 0, none⟩) (by first | omega | (simp; done) | (simp; omega))).trans (by go_simp); have kf5w2_heap_size_0 : w5.frozen? ⟨w2.heap.size, 0, none⟩ = false := (hb5.frozen (p := ⟨w2.heap.size, 0, none⟩) (by first | omega | (simp; done) | (simp; omega))).trans (by go_simp); have kc5w2_heap_size_1 : w5.cell? ⟨w2.heap.size, 1, none⟩ = some (.int .u64 0) := (hb5.cell (p := ⟨w2.heap.size, 1, none⟩) (by first | omega | (simp; done) | (simp; omega))).trans (by go_simp); have kf5w2_heap_size_1 : w5.frozen? ⟨w2.heap.size, 1, none⟩ = false := (hb5.frozen (p := ⟨w2.heap.size, 1, none⟩) (by first | omega | (simp; done) | (simp; omega))).trans (by go_simp); have kc5w2_heap_size_2 : w5.cell? ⟨w2.heap.size, 2, none⟩ = some (.int .u64 0) := (hb5.cell (p := ⟨w2.heap.size, 2, none⟩) (by first | omega | (simp; done) | (simp; omega))).trans (by go_simp); have kf5w2_heap_size_2 : w5.frozen? ⟨w2.heap.size, 2, none⟩ = false := (hb5.frozen (p := ⟨w2.heap.size, 2, none⟩) (by first | omega | (simp; done) | (simp; omega))).trans (by go_simp); have kc5w2_heap_size_3 : w5.cell? ⟨w2.heap.size, 3, none⟩ = some (.int .u64 0) := (hb5.cell (p := ⟨w2.heap.size, 3, none⟩) (by first | omega | (simp; done) | (simp; omega))).trans (by go_simp); have kf5w2_heap_size_3 : w5.frozen? ⟨w2.heap.size, 3, none⟩ = false := (hb5.frozen (p := ⟨w2.heap.size, 3, none⟩) (by first | omega | (simp; done) | (simp; omega))).trans (by go_simp)
          go_wp2
          go_ret
          exact ⟨rfl, by (repeat' (first | (with_reducible exact Below.refl _ _) | (with_reducible assumption) | (with_reducible refine Below.alloc ?_ ?_ _) | (with_reducible refine Below.drew ?_) | (with_reducible refine below_drewN ?_ _) | (with_reducible refine Below.setCell ?_ ?_ _) | (with_reducible refine Below.trans ?_ (Below.mono (by assumption) ?_)) | go_size))⟩
        · skip
          obtain rfl : m = (n : Int) := by omega
          have nm : ¬ (n : Int) < 0 := by omega
          have nm2 : (0 : Int) ≤ n := by omega
          have nm3 : (n : Int) ≤ 2048 := by omega
          have nm4 : ¬ (2048 : Int) < n := by omega
          go_wp2_with fail
          refine (D6.out _).mono ?_
          rintro e w2 ⟨rfl, hb2⟩
          have hz2 := hb2.size
          have B2 := HB.out.below hb2
          have fcw2_s0 : w2.cell? ⟨w.heap.size, 0, none⟩ = some (.int .u64 s0.toNat) := (B2.head 0 _ rfl).1; have ffw2_s0 : w2.frozen? ⟨w.heap.size, 0, none⟩ = false := (B2.head 0 _ rfl).2; have fcw2_s1 : w2.cell? ⟨w.heap.size, 1, none⟩ = some (.int .u64 s1.toNat) := (B2.head 1 _ rfl).1; have ffw2_s1 : w2.frozen? ⟨w.heap.size, 1, none⟩ = false := (B2.head 1 _ rfl).2; have fcw2_s2 : w2.cell? ⟨w.heap.size, 2, none⟩ = some (.int .u64 s2.toNat) := (B2.head 2 _ rfl).1; have ffw2_s2 : w2.frozen? ⟨w.heap.size, 2, none⟩ = false := (B2.head 2 _ rfl).2; have fcw2_s3 : w2.cell? ⟨w.heap.size, 3, none⟩ = some (.int .u64 s3.toNat) := (B2.head 3 _ rfl).1; have ffw2_s3 : w2.frozen? ⟨w.heap.size, 3, none⟩ = false := (B2.head 3 _ rfl).2; have fcw2_y0 : w2.cell? ⟨wc.heap.size + 1 + 1, 0, none⟩ = some (.int .u64 x0.toNat) := (B2.tail.head 0 _ rfl).1; have ffw2_y0 : w2.frozen? ⟨wc.heap.size + 1 + 1, 0, none⟩ = false := (B2.tail.head 0 _ rfl).2; have fcw2_y1 : w2.cell? ⟨wc.heap.size + 1 + 1, 1, none⟩ = some (.int .u64 x1.toNat) := (B2.tail.head 1 _ rfl).1; have ffw2_y1 : w2.frozen? ⟨wc.heap.size + 1 + 1, 1, none⟩ = false := (B2.tail.head 1 _ rfl).2; have fcw2_y2 : w2.cell? ⟨wc.heap.size + 1 + 1, 2, none⟩ = some (.int .u64 x2.toNat) := (B2.tail.head 2 _ rfl).1; have ffw2_y2 : w2.frozen? ⟨wc.heap.size + 1 + 1, 2, none⟩ = false := (B2.tail.head 2 _ rfl).2; have fcw2_y3 : w2.cell? ⟨wc.heap.size + 1 + 1, 3, none⟩ = some (.int .u64 x3.toNat) := (B2.tail.head 3 _ rfl).1; have ffw2_y3 : w2.frozen? ⟨wc.heap.size + 1 + 1, 3, none⟩ = false := (B2.tail.head 3 _ rfl).2
          have HB2 := Lib.hid B2
          clear B2
          go_wp2_with fail
          refine (xbits_ok n (by omega) _ _ _ _ _).mono ?_
          rintro e w3 ⟨vq, rfl, hoq, hb3⟩
          have HOQ := Lib.hid hoq
          clear hoq
          have hz3 := hb3.size; (try simp at hz3)
          have kc3w_heap_size_0 : w3.cell? ⟨w.heap.size, 0, none⟩ = some (.int .u64 s0.toNat) := (hb3.cell (p := ⟨w.heap.size, 0, none⟩) (by first | omega | (simp; done) | (simp; omega))).trans (by go_simp); have kf3w_heap_size_0 : w3.frozen? ⟨w.heap.size, 0, none⟩ = false := (hb3.frozen (p := ⟨w.heap.size, 0, none⟩) (by first | omega | (simp; done) | (simp; omega))).trans (by go_simp); have kc3w_heap_size_1 : w3.cell? ⟨w.heap.size, 1, none⟩ = some (.int .u64 s1.toNat) := (hb3.cell (p := ⟨w.heap.size, 1, none⟩) (by first | omega | (simp; done) | (simp; omega))).trans (by go_simp); have kf3w_heap_size_1 : w3.frozen? ⟨w.heap.size, 1, none⟩ = false := (hb3.frozen (p := ⟨w.heap.size, 1, none⟩) (by first | omega | (simp; done) | (simp; omega))).trans (by go_simp); have kc3w_heap_size_2 : w3.cell? ⟨w.heap.size, 2, none⟩ = some (.int .u64 s2.toNat) := (hb3.cell (p := ⟨w.heap.size, 2, none⟩) (by first | omega | (simp; done) | (simp; omega))).trans (by go_simp); have kf3w_heap_size_2 : w3.frozen? ⟨w.heap.size, 2, none⟩ = false := (hb3.frozen (p := ⟨w.heap.size, 2, none⟩) (by first | omega | (simp; done) | (simp; omega))).trans (by go_simp); have kc3w_heap_size_3 : w3.cell? ⟨w.heap.size, 3, none⟩ = some (.int .u64 s3.toNat) := (hb3.cell (p := ⟨w.heap.size, 3, none⟩) (by first | omega | (simp; done) | (simp; omega))).trans (by go_simp); have kf3w_heap_size_3 : w3.frozen? ⟨w.heap.size, 3, none⟩ = false := (hb3.frozen (p := ⟨w.heap.size, 3, none⟩) (by first | omega | (simp; done) | (simp; omega))).trans (by go_simp)
          have kc3wc_heap_size___1___1_0 : w3.cell? ⟨wc.heap.size + 1 + 1, 0, none⟩ = some (.int .u64 x0.toNat) := (hb3.cell (p := ⟨wc.heap.size + 1 + 1, 0, none⟩) (by first | omega | (simp; done) | (simp; omega))).trans (by go_simp); have kf3wc_heap_size___1___1_0 : w3.frozen? ⟨wc.heap.size + 1 + 1, 0, none⟩ = false := (hb3.frozen (p := ⟨wc.heap.size + 1 + 1, 0, none⟩) (by first | omega | (simp; done) | (simp; omega))).trans (by go_simp); have kc3wc_heap_size___1___1_1 : w3.cell? ⟨wc.heap.size + 1 + 1, 1, none⟩ = some (.int .u64 x1.toNat) := (hb3.cell (p := ⟨wc.heap.size + 1 + 1, 1, none⟩) (by first | omega | (simp; done) | (simp; omega))).trans (by go_simp); have kf3wc_heap_size___1___1_1 : w3.frozen? ⟨wc.heap.size + 1 + 1, 1, none⟩ = false := (hb3.frozen (p := ⟨wc.heap.size + 1 + 1, 1, none⟩) (by first | omega | (simp; done) | (simp; omega))).trans (by go_simp); have kc3wc_heap_size___1___1_2 : w3.cell? ⟨wc.heap.size + 1 + 1, 2, none⟩ = some (.int .u64 x2.toNat) := (hb3.cell (p := ⟨wc.heap.size + 1 + 1, 2, none⟩) (by first | omega | (simp; done) | (simp; omega))).trans (by go_simp); have kf3wc_heap_size___1___1_2 : w3.frozen? ⟨wc.heap.size + 1 + 1, 2, none⟩ = false := (hb3.frozen (p := ⟨wc.heap.size + 1 + 1, 2, none⟩) (by first | omega | (simp; done) | (simp; omega))).trans (by go_simp); have kc3wc_heap_size___1___1_3 : w3.cell? ⟨wc.heap.size + 1 + 1, 3, none⟩ = some (.int .u64 x3.toNat) := (hb3.cell (p := ⟨wc.heap.size + 1 + 1, 3, none⟩) (by first | omega | (simp; done) | (simp; omega))).trans (by go_simp); have kf3wc_heap_size___1___1_3 : w3.frozen? ⟨wc.heap.size + 1 + 1, 3, none⟩ = false := (hb3.frozen (p := ⟨wc.heap.size + 1 + 1, 3, none⟩) (by first | omega | (simp; done) | (simp; omega))).trans (by go_simp)
          have kc3w2_heap_size_0 : w3.cell? ⟨w2.heap.size, 0, none⟩ = some (.int .u64 0) := (hb3.cell (p := ⟨w2.heap.size, 0, none⟩) (by first | omega | (simp; done) | (simp; omega))).trans (by go_simp); have kf3w2_heap_size_0 : w3.frozen? ⟨w2.heap.size, 0, none⟩ = false := (hb3.frozen (p := ⟨w2.heap.size, 0, none⟩) (by first | omega | (simp; done) | (simp; omega))).trans (by go_simp); have kc3w2_heap_size_1 : w3.cell? ⟨w2.heap.size, 1, none⟩ = some (.int .u64 0) := (hb3.cell (p := ⟨w2.heap.size, 1, none⟩) (by first | omega | (simp; done) | (simp; omega))).trans (by go_simp); have kf3w2_heap_size_1 : w3.frozen? ⟨w2.heap.size, 1, none⟩ = false := (hb3.frozen (p := ⟨w2.heap.size, 1, none⟩) (by first | omega | (simp; done) | (simp; omega))).trans (by go_simp); have kc3w2_heap_size_2 : w3.cell? ⟨w2.heap.size, 2, none⟩ = some (.int .u64 0) := (hb3.cell (p := ⟨w2.heap.size, 2, none⟩) (by first | omega | (simp; done) | (simp; omega))).trans (by go_simp); have kf3w2_heap_size_2 : w3.frozen? ⟨w2.heap.size, 2, none⟩ = false := (hb3.frozen (p := ⟨w2.heap.size, 2, none⟩) (by first | omega | (simp; done) | (simp; omega))).trans (by go_simp); have kc3w2_heap_size_3 : w3.cell? ⟨w2.heap.size, 3, none⟩ = some (.int .u64 0) := (hb3.cell (p := ⟨w2.heap.size, 3, none⟩) (by first | omega | (simp; done) | (simp; omega))).trans (by go_simp); have kf3w2_heap_size_3 : w3.frozen? ⟨w2.heap.size, 3, none⟩ = false := (hb3.frozen (p := ⟨w2.heap.size, 3, none⟩) (by first | omega | (simp; done) | (simp; omega))).trans (by go_simp)
          go_wp2_with fail
          refine (same_same (Xo.bitsL n ⟨s0, s1, s2, s3⟩) (by rw [Xo.bits_length]; omega) vq u6 _ wc.heap.size _ (by rw [Xo.bits_length]; exact HOQ.out) (by rw [Xo.bits_length]; exact owns_below ((owns_below HV.out hb2).alloc _) hb3)).mono ?_
          rintro e w4 ⟨rfl, hb4⟩
          have hz4 := hb4.size; (try simp at hz4)
          have kc4w_heap_size_0 : w4.cell? ⟨w.heap.size, 0, none⟩ = some (.int .u64 s0.toNat) := (hb4.cell (p := ⟨w.heap.size, 0, none⟩) (by first | omega | (simp; done) | (simp; omega))).trans (by go_simp); have kf4w_heap_size_0 : w4.frozen? ⟨w.heap.size, 0, none⟩ = false := (hb4.frozen (p := ⟨w.heap.size, 0, none⟩) (by first | omega | (simp; done) | (simp; omega))).trans (by go_simp); have kc4w_heap_size_1 : w4.cell? ⟨w.heap.size, 1, none⟩ = some (.int .u64 s1.toNat) := (hb4.cell (p := ⟨w.heap.size, 1, none⟩) (by first | omega | (simp; done) | (simp; omega))).trans (by go_simp); have kf4w_heap_size_1 : w4.frozen? ⟨w.heap.size, 1, none⟩ = false := (hb4.frozen (p := ⟨w.heap.size, 1, none⟩) (by first | omega | (simp; done) | (simp; omega))).trans (by go_simp); have kc4w_heap_size_2 : w4.cell? ⟨w.heap.size, 2, none⟩ = some (.int .u64 s2.toNat) := (hb4.cell (p := ⟨w.heap.size, 2, none⟩) (by first | omega | (simp; done) | (simp; omega))).trans (by go_simp); have kf4w_heap_size_2 : w4.frozen? ⟨w.heap.size, 2, none⟩ = false := (hb4.frozen (p := ⟨w.heap.size, 2, none⟩) (by first | omega | (simp; done) | (simp; omega))).trans (by go_simp); have kc4w_heap_size_3 : w4.cell? ⟨w.heap.size, 3, none⟩ = some (.int .u64 s3.toNat) := (hb4.cell (p := ⟨w.heap.size, 3, none⟩) (by first | omega | (simp; done) | (simp; omega))).trans (by go_simp); have kf4w_heap_size_3 : w4.frozen? ⟨w.heap.size, 3, none⟩ = false := (hb4.frozen (p := ⟨w.heap.size, 3, none⟩) (by first | omega | (simp; done) | (simp; omega))).trans (by go_simp)
          have kc4wc_heap_size___1___1_0 : w4.cell? ⟨wc.heap.size + 1 + 1, 0, none⟩ = some (.int .u64 x0.toNat) := (hb4.cell (p := ⟨wc.heap.size + 1 + 1, 0, none⟩) (by first | omega | (simp; done) | (simp; omega))).trans (by go_simp); have kf4wc_heap_size___1___1_0 : w4.frozen? ⟨wc.heap.size + 1 + 1, 0, none⟩ = false := (hb4.frozen (p := ⟨wc.heap.size + 1 + 1, 0, none⟩) (by first | omega | (simp; done) | (simp; omega))).trans (by go_simp); have kc4wc_heap_size___1___1_1 : w4.cell? ⟨wc.heap.size + 1 + 1, 1, none⟩ = some (.int .u64 x1.toNat) := (hb4.cell (p := ⟨wc.heap.size + 1 + 1, 1, none⟩) (by first | omega | (simp; done) | (simp; omega))).trans (by go_simp); have kf4wc_heap_size___1___1_1 : w4.frozen? ⟨wc.heap.size + 1 + 1, 1, none⟩ = false := (hb4.frozen (p := ⟨wc.heap.size + 1 + 1, 1, none⟩) (by first | omega | (simp; done) | (simp; omega))).trans (by go_simp); have kc4wc_heap_size___1___1_2 : w4.cell? ⟨wc.heap.size + 1 + 1, 2, none⟩ = some (.int .u64 x2.toNat) := (hb4.cell (p := ⟨wc.heap.size + 1 + 1, 2, none⟩) (by first | omega | (simp; done) | (simp; omega))).trans (by go_simp); have kf4wc_heap_size___1___1_2 : w4.frozen? ⟨wc.heap.size + 1 + 1, 2, none⟩ = false := (hb4.frozen (p := ⟨wc.heap.size + 1 + 1, 2, none⟩) (by first | omega | (simp; done) | (simp; omega))).trans (by go_simp); have kc4wc_heap_size___1___1_3 : w4.cell? ⟨wc.heap.size + 1 + 1, 3, none⟩ = some (.int .u64 x3.toNat) := (hb4.cell (p := ⟨wc.heap.size + 1 + 1, 3, none⟩) (by first | omega | (simp; done) | (simp; omega))).trans (by go_simp); have kf4wc_heap_size___1___1_3 : w4.frozen? ⟨wc.heap.size + 1 + 1, 3, none⟩ = false := (hb4.frozen (p := ⟨wc.heap.size + 1 + 1, 3, none⟩) (by first | omega | (simp; done) | (simp; omega))).trans (by go_simp)
          have kc4w2_heap_size_0 : w4.cell? ⟨w2.heap.size, 0, none⟩ = some (.int .u64 0) := (hb4.cell (p := ⟨w2.heap.size, 0, none⟩) (by first | omega | (simp; done) | (simp; omega))).trans (by go_simp); have kf4w2_heap_size_0 : w4.frozen? ⟨w2.heap.size, 0, none⟩ = false := (hb4.frozen (p := ⟨w2.heap.size, 0, none⟩) (by first | omega | (simp; done) | (simp; omega))).trans (by go_simp); have kc4w2_heap_size_1 : w4.cell? ⟨w2.heap.size, 1, none⟩ = some (.int .u64 0) := (hb4.cell (p := ⟨w2.heap.size, 1, none⟩) (by first | omega | (simp; done) | (simp; omega))).trans (by go_simp); have kf4w2_heap_size_1 : w4.frozen? ⟨w2.heap.size, 1, none⟩ = false := (hb4.frozen (p := ⟨w2.heap.size, 1, none⟩) (by first | omega | (simp; done) | (simp; omega))).trans (by go_simp); have kc4w2_heap_size_2 : w4.cell? ⟨w2.heap.size, 2, none⟩ = some (.int .u64 0) := (hb4.cell (p := ⟨w2.heap.size, 2, none⟩) (by first | omega | (simp; done) | (simp; omega))).trans (by go_simp); have kf4w2_heap_size_2 : w4.frozen? ⟨w2.heap.size, 2, none⟩ = false := (hb4.frozen (p := ⟨w2.heap.size, 2, none⟩) (by first | omega | (simp; done) | (simp; omega))).trans (by go_simp); have kc4w2_heap_size_3 : w4.cell? ⟨w2.heap.size, 3, none⟩ = some (.int .u64 0) := (hb4.cell (p := ⟨w2.heap.size, 3, none⟩) (by first | omega | (simp; done) | (simp; omega))).trans (by go_simp); have kf4w2_heap_size_3 : w4.frozen? ⟨w2.heap.size, 3, none⟩ = false := (hb4.frozen (p := ⟨w2.heap.size, 3, none⟩) (by first | omega | (simp; done) | (simp; omega))).trans (by go_simp)
          go_wp2_with fail
          refine (D5.out _).mono ?_
          rintro e w5 ⟨rfl, hb5⟩
          have hz5 := hb5.size; (try simp at hz5)
          have kc5wc_heap_size___1___1_0 : w5.cell? ⟨wc.heap.size + 1 + 1, 0, none⟩ = some (.int .u64 x0.toNat) := (hb5.cell (p := ⟨wc.heap.size + 1 + 1, 0, none⟩) (by first | omega | (simp; done) | (simp; omega))).trans (by go_simp); have kf5wc_heap_size___1___1_0 : w5.frozen? ⟨wc.heap.size + 1 + 1, 0, none⟩ = false := (hb5.frozen (p := ⟨wc.heap.size + 1 + 1, 0, none⟩) (by first | omega | (simp; done) | (simp; omega))).trans (by go_simp); have kc5wc_heap_size___1___1_1 : w5.cell? ⟨wc.heap.size + 1 + 1, 1, none⟩ = some (.int .u64 x1.toNat) := (hb5.cell (p := ⟨wc.heap.size + 1 + 1, 1, none⟩) (by first | omega | (simp; done) | (simp; omega))).trans (by go_simp); have kf5wc_heap_size___1___1_1 : w5.frozen? ⟨wc.heap.size + 1 + 1, 1, none⟩ = false := (hb5.frozen (p := ⟨wc.heap.size + 1 + 1, 1, none⟩) (by first | omega | (simp; done) | (simp; omega))).trans (by go_simp); have kc5wc_heap_size___1___1_2 : w5.cell? ⟨wc.heap.size + 1 + 1, 2, none⟩ = some (.int .u64 x2.toNat) := (hb5.cell (p := ⟨wc.heap.size + 1 + 1, 2, none⟩) (by first | omega | (simp; done) | (simp; omega))).trans (by go_simp); have kf5wc_heap_size___1___1_2 : w5.frozen? ⟨wc.heap.size + 1 + 1, 2, none⟩ = false := (hb5.frozen (p := ⟨wc.heap.size + 1 + 1, 2, none⟩) (by first | omega | (simp; done) | (simp; omega))).trans (by go_simp); have kc5wc_heap_size___1___1_3 : w5.cell? ⟨wc.heap.size + 1 + 1, 3, none⟩ = some (.int .u64 x3.toNat) := (hb5.cell (p := ⟨wc.heap.size + 1 + 1, 3, none⟩) (by first | omega | (simp; done) | (simp; omega))).trans (by go_simp); have kf5wc_heap_size___1___1_3 : w5.frozen? ⟨wc.heap.size + 1 + 1, 3, none⟩ = false := (hb5.frozen (p := ⟨wc.heap.size + 1 + 1, 3, none⟩) (by first | omega | (simp; done) | (simp; omega))).trans (by go_simp)
          have kc5w2_heap_size_0 : w5.cell? ⟨w2.heap.size, 0, none⟩ = some (.int .u64 0) := (hb5.cell (p := ⟨w2.heap.size, 0, none⟩) (by first | omega | (simp; done) | (simp; omega))).trans (by go_simp); have kf5w2_heap_size_0 : w5.frozen? ⟨w2.heap.size, 0, none⟩ = false := (hb5.frozen (p := ⟨w2.heap.size, 0, none⟩) (by first | omega | (simp; done) | (simp; omega))).trans (by go_simp); have kc5w2_heap_size_1 : w5.cell? ⟨w2.heap.size, 1, none⟩ = some (.int .u64 0) := (hb5.cell (p := ⟨w2.heap.size, 1, none⟩) (by first | omega | (simp; done) | (simp; omega))).trans (by go_simp); have kf5w2_heap_size_1 : w5.frozen? ⟨w2.heap.size, 1, none⟩ = false := (hb5.frozen (p := ⟨w2.heap.size, 1, none⟩) (by first | omega | (simp; done) | (simp; omega))).trans (by go_simp); have kc5w2_heap_size_2 : w5.cell? ⟨w2.heap.size, 2, none⟩ = some (.int .u64 0) := (hb5.cell (p := ⟨w2.heap.size, 2, none⟩) (by first | omega | (simp; done) | (simp; omega))).trans (by go_simp); have kf5w2_heap_size_2 : w5.frozen? ⟨w2.heap.size, 2, none⟩ = false := (hb5.frozen (p := ⟨w2.heap.size, 2, none⟩) (by first | omega | (simp; done) | (simp; omega))).trans (by go_simp); have kc5w2_heap_size_3 : w5.cell? ⟨w2.heap.size, 3, none⟩ = some (.int .u64 0) := (hb5.cell (p := ⟨w2.heap.size, 3, none⟩) (by first | omega | (simp; done) | (simp; omega))).trans (by go_simp); have kf5w2_heap_size_3 : w5.frozen? ⟨w2.heap.size, 3, none⟩ = false := (hb5.frozen (p := ⟨w2.heap.size, 3, none⟩) (by first | omega | (simp; done) | (simp; omega))).trans (by go_simp)
          go_wp2
          go_ret
          exact ⟨rfl, by (repeat' (first | (with_reducible exact Below.refl _ _) | (with_reducible assumption) | (with_reducible refine Below.alloc ?_ ?_ _) | (with_reducible refine Below.drew ?_) | (with_reducible refine below_drewN ?_ _) | (with_reducible refine Below.setCell ?_ ?_ _) | (with_reducible refine Below.trans ?_ (Below.mono (by assumption) ?_)) | go_size))⟩

set_option maxRecDepth 100000 in
set_option maxHeartbeats 4000000 in
theorem xoshTells_live (s0 s1 s2 s3 : BitVec 64) (hs : (⟨s0, s1, s2, s3⟩ : St) ≠ Xo.zero) (m : Int) (w : World) :
    Calls Try.prog 7 #[.agg #[.int .u64 s0.toNat, .int .u64 s1.toNat, .int .u64 s2.toNat, .int .u64 s3.toNat], .int .i64 m] w fun e w' => e = .returned (.bool true) ∧ Below w.heap.size w w' := by
  obtain ⟨iu, hiu, hiu0, hiu1, hiu2⟩ := info_parts Try.infoU64
  obtain ⟨ib, hib, hib0, hib1, hib2⟩ := info_parts Try.infoBool
  have q0 := eq4_zero ⟨s0, s1, s2, s3⟩
  simp only at q0
  have q : eq4 s0.toNat s1.toNat s2.toNat s3.toNat 0 0 0 0 = false := by rw [q0]; simpa using hs
  obtain ⟨wd, hwd⟩ : ∃ wd, Xo.word ⟨s0, s1, s2, s3⟩ = wd := ⟨_, rfl⟩
  obtain ⟨x, hx⟩ : ∃ x, Xo.step ⟨s0, s1, s2, s3⟩ = x := ⟨_, rfl⟩
  obtain ⟨x0, x1, x2, x3⟩ := x
  have C1 : ∀ w, Calls Try.prog 25 #[.agg #[.int .u64 s0.toNat, .int .u64 s1.toNat, .int .u64 s2.toNat, .int .u64 s3.toNat]] w fun e w' => e = .returned (.int .u64 wd.toNat) ∧ Below w.heap.size w w' := by
    intro w; have h := xword_c s0 s1 s2 s3 w; rw [hwd] at h; exact h
  have C2 : ∀ w, Calls Try.prog 26 #[.agg #[.int .u64 s0.toNat, .int .u64 s1.toNat, .int .u64 s2.toNat, .int .u64 s3.toNat]] w fun e w' => e = .returned (.int .u64 wd.toNat) ∧ Below w.heap.size w w' := by
    intro w; have h := rxword_c s0 s1 s2 s3 w; rw [hwd] at h; exact h
  have C3 : ∀ w, Calls Try.prog 27 #[.agg #[.int .u64 s0.toNat, .int .u64 s1.toNat, .int .u64 s2.toNat, .int .u64 s3.toNat]] w fun e w' => e = .returned (.agg #[.int .u64 x0.toNat, .int .u64 x1.toNat, .int .u64 x2.toNat, .int .u64 x3.toNat]) ∧ Below w.heap.size w w' := by
    intro w; have h := xstep_c s0 s1 s2 s3 w; rw [hx] at h; exact h
  have C4 : ∀ w, Calls Try.prog 28 #[.agg #[.int .u64 s0.toNat, .int .u64 s1.toNat, .int .u64 s2.toNat, .int .u64 s3.toNat]] w fun e w' => e = .returned (.agg #[.int .u64 x0.toNat, .int .u64 x1.toNat, .int .u64 x2.toNat, .int .u64 x3.toNat]) ∧ Below w.heap.size w w' := by
    intro w; have h := rxstep_c s0 s1 s2 s3 w; rw [hx] at h; exact h
  have C5 : ∀ w, Calls Try.prog 29 #[.agg #[.int .u64 s0.toNat, .int .u64 s1.toNat, .int .u64 s2.toNat, .int .u64 s3.toNat]] w fun e w' => e = .returned (.bool true) ∧ Below w.heap.size w w' := by
    intro w; have h := xright_c s0 s1 s2 s3 w; rw [q] at h; exact h
  have HS0 := Lib.hid hs
  have hnz : 0 < s0.toNat ∨ 0 < s1.toNat ∨ 0 < s2.toNat ∨ 0 < s3.toNat := by
    rcases Nat.eq_zero_or_pos s0.toNat with h0 | h0
    · rcases Nat.eq_zero_or_pos s1.toNat with h1 | h1
      · rcases Nat.eq_zero_or_pos s2.toNat with h2 | h2
        · rcases Nat.eq_zero_or_pos s3.toNat with h3 | h3
          · exact (hs (Xo.ext (BitVec.eq_of_toNat_eq h0) (BitVec.eq_of_toNat_eq h1) (BitVec.eq_of_toNat_eq h2) (BitVec.eq_of_toNat_eq h3))).elim
          · exact .inr (.inr (.inr h3))
        · exact .inr (.inr (.inl h2))
      · exact .inr (.inl h1)
    · exact .inl h0
  have HNZ := Lib.hid hnz
  clear hnz
  have E1 := eq4_self x0.toNat x1.toNat x2.toNat x3.toNat
  have E0 := eq4_self 0 0 0 0
  have D1 := Lib.hid C1
  have D2 := Lib.hid C2
  have D3 := Lib.hid C3
  have D4 := Lib.hid C4
  have D5 := Lib.hid C5
  clear hs q0 q hwd hx C1 C2 C3 C4 C5
  go_enter Try.func7, Try.ntmps7
  go_wp2_with fail
  refine (awake07_c _).mono ?_
  rintro e w1 ⟨rfl, hb1⟩
  have hz1 := hb1.size; (try simp at hz1)
  have kc1w_heap_size_0 : w1.cell? ⟨w.heap.size, 0, none⟩ = some (.int .u64 s0.toNat) := (hb1.cell (p := ⟨w.heap.size, 0, none⟩) (by first | omega | (simp; done) | (simp; omega))).trans (by go_simp); have kf1w_heap_size_0 : w1.frozen? ⟨w.heap.size, 0, none⟩ = false := (hb1.frozen (p := ⟨w.heap.size, 0, none⟩) (by first | omega | (simp; done) | (simp; omega))).trans (by go_simp); have kc1w_heap_size_1 : w1.cell? ⟨w.heap.size, 1, none⟩ = some (.int .u64 s1.toNat) := (hb1.cell (p := ⟨w.heap.size, 1, none⟩) (by first | omega | (simp; done) | (simp; omega))).trans (by go_simp); have kf1w_heap_size_1 : w1.frozen? ⟨w.heap.size, 1, none⟩ = false := (hb1.frozen (p := ⟨w.heap.size, 1, none⟩) (by first | omega | (simp; done) | (simp; omega))).trans (by go_simp); have kc1w_heap_size_2 : w1.cell? ⟨w.heap.size, 2, none⟩ = some (.int .u64 s2.toNat) := (hb1.cell (p := ⟨w.heap.size, 2, none⟩) (by first | omega | (simp; done) | (simp; omega))).trans (by go_simp); have kf1w_heap_size_2 : w1.frozen? ⟨w.heap.size, 2, none⟩ = false := (hb1.frozen (p := ⟨w.heap.size, 2, none⟩) (by first | omega | (simp; done) | (simp; omega))).trans (by go_simp); have kc1w_heap_size_3 : w1.cell? ⟨w.heap.size, 3, none⟩ = some (.int .u64 s3.toNat) := (hb1.cell (p := ⟨w.heap.size, 3, none⟩) (by first | omega | (simp; done) | (simp; omega))).trans (by go_simp); have kf1w_heap_size_3 : w1.frozen? ⟨w.heap.size, 3, none⟩ = false := (hb1.frozen (p := ⟨w.heap.size, 3, none⟩) (by first | omega | (simp; done) | (simp; omega))).trans (by go_simp)
  have hw1 : Below w.heap.size w w1 := by (repeat' (first | (with_reducible exact Below.refl _ _) | (with_reducible assumption) | (with_reducible refine Below.alloc ?_ ?_ _) | (with_reducible refine Below.drew ?_) | (with_reducible refine below_drewN ?_ _) | (with_reducible refine Below.setCell ?_ ?_ _) | (with_reducible refine Below.trans ?_ (Below.mono (by assumption) ?_)) | go_size))
  have HW1 := Lib.hid hw1
  have hB1 : Boxes w1 [(w.heap.size, [.int .u64 s0.toNat, .int .u64 s1.toNat, .int .u64 s2.toNat, .int .u64 s3.toNat])] := (Boxes.cons (box4 ⟨by go_simp, by go_simp, by go_simp, by go_simp⟩ ⟨by go_simp, by go_simp, by go_simp, by go_simp⟩) (Boxes.nil _))
  have HB1 := Lib.hid hB1
  clear hw1 hb1 hB1
  go_upto_region 3 with fail
  go_cut [50] from 16 to 50 (fun c wx => c = .bool false ∧ Below w1.heap.size w1 wx)
  case first =>
    have H4 : (decide (0 < s0.toNat) = true) ∨ (decide (0 < s0.toNat) = false ∧ decide (0 < s1.toNat) = true) ∨ (decide (0 < s0.toNat) = false ∧ decide (0 < s1.toNat) = false ∧ decide (0 < s2.toNat) = true) ∨ (decide (0 < s0.toNat) = false ∧ decide (0 < s1.toNat) = false ∧ decide (0 < s2.toNat) = false ∧ decide (0 < s3.toNat) = true) := by
      have := HNZ.out
      simp only [decide_eq_true_eq, decide_eq_false_iff_not]
      omega
    rcases H4 with z0 | ⟨z0, z1⟩ | ⟨z0, z1, z2⟩ | ⟨z0, z1, z2, z3⟩
    all_goals
      refine wp_region_held_drew (S := (fun w' => ((w'.cell? ⟨w.heap.size, 0, none⟩ = some (.int .u64 s0.toNat) ∧ w'.cell? ⟨w.heap.size, 1, none⟩ = some (.int .u64 s1.toNat) ∧ w'.cell? ⟨w.heap.size, 2, none⟩ = some (.int .u64 s2.toNat) ∧ w'.cell? ⟨w.heap.size, 3, none⟩ = some (.int .u64 s3.toNat))))) (by kernel_rfl) (by (try dsimp only); go_keep) (fun hHeld => ?_)
      first
        | (refine wpAnyH_take (i := 0) (v := ?_) (by (simp only [List.getElem?_toArray, List.getElem?_cons_zero, List.getElem?_cons_succ]; rfl)) (by kernel_rfl) (by kernel_rfl) (by kernel_rfl) (by (intro _ _ _ h; exact h)) (Or.inl ⟨by rfl, ?_⟩) (by assumption) ?_; rotate_left; intro w hSw; (try dsimp only at hSw); go_simp; (try with_reducible rfl))
        | (refine wpAnyH_take (i := 0) (v := undef) (by (simp only [List.getElem?_toArray, List.getElem?_cons_zero, List.getElem?_cons_succ]; rfl)) (by kernel_rfl) (by kernel_rfl) (by kernel_rfl) (by (intro _ _ _ h; exact h)) (Or.inr ⟨by rfl, rfl⟩) (by assumption) ?_)
      (try simp only [Act.put, List.setIfInBounds_toArray, List.set_cons_zero, List.set_cons_succ])
      first
        | (refine wpAnyH_take (i := 2) (v := ?_) (by (simp only [List.getElem?_toArray, List.getElem?_cons_zero, List.getElem?_cons_succ]; rfl)) (by kernel_rfl) (by kernel_rfl) (by kernel_rfl) (by (intro _ _ _ h; exact h)) (Or.inl ⟨by rfl, ?_⟩) (by assumption) ?_; rotate_left; intro w hSw; (try dsimp only at hSw); go_simp; (try with_reducible rfl))
        | (refine wpAnyH_take (i := 2) (v := undef) (by (simp only [List.getElem?_toArray, List.getElem?_cons_zero, List.getElem?_cons_succ]; rfl)) (by kernel_rfl) (by kernel_rfl) (by kernel_rfl) (by (intro _ _ _ h; exact h)) (Or.inr ⟨by rfl, rfl⟩) (by assumption) ?_)
      (try simp only [Act.put, List.setIfInBounds_toArray, List.set_cons_zero, List.set_cons_succ])
      refine wpAnyH_ready (rs := [1]) (by kernel_rfl) (by simp) (AllReadyH.cons (by (simp only [List.getElem?_toArray, List.getElem?_cons_zero, List.getElem?_cons_succ]; rfl)) (fun K hK => ?_) AllReadyH.nil)
      go_simp
      refine (D1.out _).mono ?_; rintro e w' ⟨rfl, hb⟩; have hk := keep_cell hb; have hz := hb.size; (try simp at hz)
      go_wp2_with fail
      refine hK.out _ _ ?_ (fun hHeld => ?_)
      · (try dsimp only)
        go_keep
      clear hK K
      (try simp only [Act.put, List.setIfInBounds_toArray, List.set_cons_zero, List.set_cons_succ])
      refine wpAnyH_ready (rs := [3]) (by kernel_rfl) (by simp) (AllReadyH.cons (by (simp only [List.getElem?_toArray, List.getElem?_cons_zero, List.getElem?_cons_succ]; rfl)) (fun K hK => ?_) AllReadyH.nil)
      go_simp
      refine (D2.out _).mono ?_; rintro e w' ⟨rfl, hb⟩; have hk := keep_cell hb; have hz := hb.size; (try simp at hz)
      go_wp2_with fail
      refine hK.out _ _ ?_ (fun hHeld => ?_)
      · (try dsimp only)
        go_keep
      clear hK K
      (try simp only [Act.put, List.setIfInBounds_toArray, List.set_cons_zero, List.set_cons_succ])
      first
        | (refine wpAnyH_take (i := 4) (v := ?_) (by (simp only [List.getElem?_toArray, List.getElem?_cons_zero, List.getElem?_cons_succ]; rfl)) (by kernel_rfl) (by kernel_rfl) (by kernel_rfl) (by (intro _ _ _ h; exact h)) (Or.inl ⟨by rfl, ?_⟩) (by assumption) ?_; rotate_left; intro w hSw; (try dsimp only at hSw); go_simp; (try with_reducible rfl))
        | (refine wpAnyH_take (i := 4) (v := undef) (by (simp only [List.getElem?_toArray, List.getElem?_cons_zero, List.getElem?_cons_succ]; rfl)) (by kernel_rfl) (by kernel_rfl) (by kernel_rfl) (by (intro _ _ _ h; exact h)) (Or.inr ⟨by rfl, rfl⟩) (by assumption) ?_)
      (try simp only [Act.put, List.setIfInBounds_toArray, List.set_cons_zero, List.set_cons_succ])
      first
        | (refine wpAnyH_take (i := 5) (v := ?_) (by (simp only [List.getElem?_toArray, List.getElem?_cons_zero, List.getElem?_cons_succ]; rfl)) (by kernel_rfl) (by kernel_rfl) (by kernel_rfl) (by (intro _ _ _ h; exact h)) (Or.inl ⟨by rfl, ?_⟩) (by assumption) ?_; rotate_left; intro w hSw; (try dsimp only at hSw); go_simp; (try with_reducible rfl))
        | (refine wpAnyH_take (i := 5) (v := undef) (by (simp only [List.getElem?_toArray, List.getElem?_cons_zero, List.getElem?_cons_succ]; rfl)) (by kernel_rfl) (by kernel_rfl) (by kernel_rfl) (by (intro _ _ _ h; exact h)) (Or.inr ⟨by rfl, rfl⟩) (by assumption) ?_)
      (try simp only [Act.put, List.setIfInBounds_toArray, List.set_cons_zero, List.set_cons_succ])
      first
        | (refine wpAnyH_take (i := 6) (v := ?_) (by (simp only [List.getElem?_toArray, List.getElem?_cons_zero, List.getElem?_cons_succ]; rfl)) (by kernel_rfl) (by kernel_rfl) (by kernel_rfl) (by (intro _ _ _ h; exact h)) (Or.inl ⟨by rfl, ?_⟩) (by assumption) ?_; rotate_left; intro w hSw; (try dsimp only at hSw); go_simp; (try with_reducible rfl))
        | (refine wpAnyH_take (i := 6) (v := undef) (by (simp only [List.getElem?_toArray, List.getElem?_cons_zero, List.getElem?_cons_succ]; rfl)) (by kernel_rfl) (by kernel_rfl) (by kernel_rfl) (by (intro _ _ _ h; exact h)) (Or.inr ⟨by rfl, rfl⟩) (by assumption) ?_)
      (try simp only [Act.put, List.setIfInBounds_toArray, List.set_cons_zero, List.set_cons_succ])
      first
        | (refine wpAnyH_take (i := 8) (v := ?_) (by (simp only [List.getElem?_toArray, List.getElem?_cons_zero, List.getElem?_cons_succ]; rfl)) (by kernel_rfl) (by kernel_rfl) (by kernel_rfl) (by (intro _ _ _ h; exact h)) (Or.inl ⟨by rfl, ?_⟩) (by assumption) ?_; rotate_left; intro w hSw; (try dsimp only at hSw); go_simp; (try with_reducible rfl))
        | (refine wpAnyH_take (i := 8) (v := undef) (by (simp only [List.getElem?_toArray, List.getElem?_cons_zero, List.getElem?_cons_succ]; rfl)) (by kernel_rfl) (by kernel_rfl) (by kernel_rfl) (by (intro _ _ _ h; exact h)) (Or.inr ⟨by rfl, rfl⟩) (by assumption) ?_)
      (try simp only [Act.put, List.setIfInBounds_toArray, List.set_cons_zero, List.set_cons_succ])
      refine wpAnyH_ready (rs := [7]) (by kernel_rfl) (by simp) (AllReadyH.cons (by (simp only [List.getElem?_toArray, List.getElem?_cons_zero, List.getElem?_cons_succ]; rfl)) (fun K hK => ?_) AllReadyH.nil)
      go_simp
      refine (D3.out _).mono ?_; rintro e w' ⟨rfl, hb⟩; have hk := keep_cell hb; have hz := hb.size; (try simp at hz)
      go_wp2_with fail
      refine hK.out _ _ ?_ (fun hHeld => ?_)
      · (try dsimp only)
        go_keep
      clear hK K
      (try simp only [Act.put, List.setIfInBounds_toArray, List.set_cons_zero, List.set_cons_succ])
      refine wpAnyH_ready (rs := [9]) (by kernel_rfl) (by simp) (AllReadyH.cons (by (simp only [List.getElem?_toArray, List.getElem?_cons_zero, List.getElem?_cons_succ]; rfl)) (fun K hK => ?_) AllReadyH.nil)
      go_simp
      refine (D4.out _).mono ?_; rintro e w' ⟨rfl, hb⟩; have hk := keep_cell hb; have hz := hb.size; (try simp at hz)
      go_wp2_with fail
      refine hK.out _ _ ?_ (fun hHeld => ?_)
      · (try dsimp only)
        go_keep
      clear hK K
      (try simp only [Act.put, List.setIfInBounds_toArray, List.set_cons_zero, List.set_cons_succ])
      first
        | (refine wpAnyH_take (i := 10) (v := ?_) (by (simp only [List.getElem?_toArray, List.getElem?_cons_zero, List.getElem?_cons_succ]; rfl)) (by kernel_rfl) (by kernel_rfl) (by kernel_rfl) (by (intro _ _ _ h; exact h)) (Or.inl ⟨by rfl, ?_⟩) (by assumption) ?_; rotate_left; intro w hSw; (try dsimp only at hSw); go_simp; (try with_reducible rfl))
        | (refine wpAnyH_take (i := 10) (v := undef) (by (simp only [List.getElem?_toArray, List.getElem?_cons_zero, List.getElem?_cons_succ]; rfl)) (by kernel_rfl) (by kernel_rfl) (by kernel_rfl) (by (intro _ _ _ h; exact h)) (Or.inr ⟨by rfl, rfl⟩) (by assumption) ?_)
      (try simp only [Act.put, List.setIfInBounds_toArray, List.set_cons_zero, List.set_cons_succ])
      first
        | (refine wpAnyH_take (i := 11) (v := ?_) (by (simp only [List.getElem?_toArray, List.getElem?_cons_zero, List.getElem?_cons_succ]; rfl)) (by kernel_rfl) (by kernel_rfl) (by kernel_rfl) (by (intro _ _ _ h; exact h)) (Or.inl ⟨by rfl, ?_⟩) (by assumption) ?_; rotate_left; intro w hSw; (try dsimp only at hSw); go_simp; (try with_reducible rfl))
        | (refine wpAnyH_take (i := 11) (v := undef) (by (simp only [List.getElem?_toArray, List.getElem?_cons_zero, List.getElem?_cons_succ]; rfl)) (by kernel_rfl) (by kernel_rfl) (by kernel_rfl) (by (intro _ _ _ h; exact h)) (Or.inr ⟨by rfl, rfl⟩) (by assumption) ?_)
      (try simp only [Act.put, List.setIfInBounds_toArray, List.set_cons_zero, List.set_cons_succ])
      first
        | (refine wpAnyH_take (i := 12) (v := ?_) (by (simp only [List.getElem?_toArray, List.getElem?_cons_zero, List.getElem?_cons_succ]; rfl)) (by kernel_rfl) (by kernel_rfl) (by kernel_rfl) (by (intro _ _ _ h; exact h)) (Or.inl ⟨by rfl, ?_⟩) (by assumption) ?_; rotate_left; intro w hSw; (try dsimp only at hSw); go_simp; (try with_reducible rfl))
        | (refine wpAnyH_take (i := 12) (v := undef) (by (simp only [List.getElem?_toArray, List.getElem?_cons_zero, List.getElem?_cons_succ]; rfl)) (by kernel_rfl) (by kernel_rfl) (by kernel_rfl) (by (intro _ _ _ h; exact h)) (Or.inr ⟨by rfl, rfl⟩) (by assumption) ?_)
      (try simp only [Act.put, List.setIfInBounds_toArray, List.set_cons_zero, List.set_cons_succ])
      first
        | (refine wpAnyH_take (i := 13) (v := ?_) (by (simp only [List.getElem?_toArray, List.getElem?_cons_zero, List.getElem?_cons_succ]; rfl)) (by kernel_rfl) (by kernel_rfl) (by kernel_rfl) (by (intro _ _ _ h; exact h)) (Or.inl ⟨by rfl, ?_⟩) (by assumption) ?_; rotate_left; intro w hSw; (try dsimp only at hSw); go_simp; (try with_reducible rfl))
        | (refine wpAnyH_take (i := 13) (v := undef) (by (simp only [List.getElem?_toArray, List.getElem?_cons_zero, List.getElem?_cons_succ]; rfl)) (by kernel_rfl) (by kernel_rfl) (by kernel_rfl) (by (intro _ _ _ h; exact h)) (Or.inr ⟨by rfl, rfl⟩) (by assumption) ?_)
      (try simp only [Act.put, List.setIfInBounds_toArray, List.set_cons_zero, List.set_cons_succ])
      first
        | (refine wpAnyH_take (i := 15) (v := ?_) (by (simp only [List.getElem?_toArray, List.getElem?_cons_zero, List.getElem?_cons_succ]; rfl)) (by kernel_rfl) (by kernel_rfl) (by kernel_rfl) (by (intro _ _ _ h; exact h)) (Or.inl ⟨by rfl, ?_⟩) (by assumption) ?_; rotate_left; intro w hSw; (try dsimp only at hSw); go_simp; (try with_reducible rfl))
        | (refine wpAnyH_take (i := 15) (v := undef) (by (simp only [List.getElem?_toArray, List.getElem?_cons_zero, List.getElem?_cons_succ]; rfl)) (by kernel_rfl) (by kernel_rfl) (by kernel_rfl) (by (intro _ _ _ h; exact h)) (Or.inr ⟨by rfl, rfl⟩) (by assumption) ?_)
      (try simp only [Act.put, List.setIfInBounds_toArray, List.set_cons_zero, List.set_cons_succ])
      first
        | (refine wpAnyH_take (i := 16) (v := ?_) (by (simp only [List.getElem?_toArray, List.getElem?_cons_zero, List.getElem?_cons_succ]; rfl)) (by kernel_rfl) (by kernel_rfl) (by kernel_rfl) (by (intro _ _ _ h; exact h)) (Or.inl ⟨by rfl, ?_⟩) (by assumption) ?_; rotate_left; intro w hSw; (try dsimp only at hSw); go_simp; (try with_reducible rfl))
        | (refine wpAnyH_take (i := 16) (v := undef) (by (simp only [List.getElem?_toArray, List.getElem?_cons_zero, List.getElem?_cons_succ]; rfl)) (by kernel_rfl) (by kernel_rfl) (by kernel_rfl) (by (intro _ _ _ h; exact h)) (Or.inr ⟨by rfl, rfl⟩) (by assumption) ?_)
      (try simp only [Act.put, List.setIfInBounds_toArray, List.set_cons_zero, List.set_cons_succ])
      first
        | (refine wpAnyH_take (i := 17) (v := ?_) (by (simp only [List.getElem?_toArray, List.getElem?_cons_zero, List.getElem?_cons_succ]; rfl)) (by kernel_rfl) (by kernel_rfl) (by kernel_rfl) (by (intro _ _ _ h; exact h)) (Or.inl ⟨by rfl, ?_⟩) (by assumption) ?_; rotate_left; intro w hSw; (try dsimp only at hSw); go_simp; (try with_reducible rfl))
        | (refine wpAnyH_take (i := 17) (v := undef) (by (simp only [List.getElem?_toArray, List.getElem?_cons_zero, List.getElem?_cons_succ]; rfl)) (by kernel_rfl) (by kernel_rfl) (by kernel_rfl) (by (intro _ _ _ h; exact h)) (Or.inr ⟨by rfl, rfl⟩) (by assumption) ?_)
      (try simp only [Act.put, List.setIfInBounds_toArray, List.set_cons_zero, List.set_cons_succ])
      refine wpAnyH_ready (rs := [14]) (by kernel_rfl) (by simp) (AllReadyH.cons (by (simp only [List.getElem?_toArray, List.getElem?_cons_zero, List.getElem?_cons_succ]; rfl)) (fun K hK => ?_) AllReadyH.nil)
      go_simp
      refine (D5.out _).mono ?_; rintro e w' ⟨rfl, hb⟩; have hk := keep_cell hb; have hz := hb.size; (try simp at hz)
      go_wp2_with fail
      refine hK.out _ _ ?_ (fun hHeld => ?_)
      · (try dsimp only)
        go_keep
      clear hK K
      (try simp only [Act.put, List.setIfInBounds_toArray, List.set_cons_zero, List.set_cons_succ])
      first
        | (refine wpAnyH_take (i := 18) (v := ?_) (by (simp only [List.getElem?_toArray, List.getElem?_cons_zero, List.getElem?_cons_succ]; rfl)) (by kernel_rfl) (by kernel_rfl) (by kernel_rfl) (by (intro _ _ _ h; exact h)) (Or.inl ⟨by rfl, ?_⟩) (by assumption) ?_; rotate_left; intro w hSw; (try dsimp only at hSw); go_simp; (try with_reducible rfl))
        | (refine wpAnyH_take (i := 18) (v := undef) (by (simp only [List.getElem?_toArray, List.getElem?_cons_zero, List.getElem?_cons_succ]; rfl)) (by kernel_rfl) (by kernel_rfl) (by kernel_rfl) (by (intro _ _ _ h; exact h)) (Or.inr ⟨by rfl, rfl⟩) (by assumption) ?_)
      (try simp only [Act.put, List.setIfInBounds_toArray, List.set_cons_zero, List.set_cons_succ])
      first
        | (refine wpAnyH_take (i := 19) (v := ?_) (by (simp only [List.getElem?_toArray, List.getElem?_cons_zero, List.getElem?_cons_succ]; rfl)) (by kernel_rfl) (by kernel_rfl) (by kernel_rfl) (by (intro _ _ _ h; exact h)) (Or.inl ⟨by rfl, ?_⟩) (by assumption) ?_; rotate_left; intro w hSw; (try dsimp only at hSw); go_simp; (try with_reducible rfl))
        | (refine wpAnyH_take (i := 19) (v := undef) (by (simp only [List.getElem?_toArray, List.getElem?_cons_zero, List.getElem?_cons_succ]; rfl)) (by kernel_rfl) (by kernel_rfl) (by kernel_rfl) (by (intro _ _ _ h; exact h)) (Or.inr ⟨by rfl, rfl⟩) (by assumption) ?_)
      (try simp only [Act.put, List.setIfInBounds_toArray, List.set_cons_zero, List.set_cons_succ])
      first
        | (refine wpAnyH_take (i := 20) (v := ?_) (by (simp only [List.getElem?_toArray, List.getElem?_cons_zero, List.getElem?_cons_succ]; rfl)) (by kernel_rfl) (by kernel_rfl) (by kernel_rfl) (by (intro _ _ _ h; exact h)) (Or.inl ⟨by rfl, ?_⟩) (by assumption) ?_; rotate_left; intro w hSw; (try dsimp only at hSw); go_simp; (try with_reducible rfl))
        | (refine wpAnyH_take (i := 20) (v := undef) (by (simp only [List.getElem?_toArray, List.getElem?_cons_zero, List.getElem?_cons_succ]; rfl)) (by kernel_rfl) (by kernel_rfl) (by kernel_rfl) (by (intro _ _ _ h; exact h)) (Or.inr ⟨by rfl, rfl⟩) (by assumption) ?_)
      (try simp only [Act.put, List.setIfInBounds_toArray, List.set_cons_zero, List.set_cons_succ])
      first
        | (refine wpAnyH_take (i := 21) (v := ?_) (by (simp only [List.getElem?_toArray, List.getElem?_cons_zero, List.getElem?_cons_succ]; rfl)) (by kernel_rfl) (by kernel_rfl) (by kernel_rfl) (by (intro _ _ _ h; exact h)) (Or.inl ⟨by rfl, ?_⟩) (by assumption) ?_; rotate_left; intro w hSw; (try dsimp only at hSw); go_simp; (try with_reducible rfl))
        | (refine wpAnyH_take (i := 21) (v := undef) (by (simp only [List.getElem?_toArray, List.getElem?_cons_zero, List.getElem?_cons_succ]; rfl)) (by kernel_rfl) (by kernel_rfl) (by kernel_rfl) (by (intro _ _ _ h; exact h)) (Or.inr ⟨by rfl, rfl⟩) (by assumption) ?_)
      (try simp only [Act.put, List.setIfInBounds_toArray, List.set_cons_zero, List.set_cons_succ])
      first
        | (refine wpAnyH_take (i := 22) (v := ?_) (by (simp only [List.getElem?_toArray, List.getElem?_cons_zero, List.getElem?_cons_succ]; rfl)) (by kernel_rfl) (by kernel_rfl) (by kernel_rfl) (by (intro _ _ _ h; exact h)) (Or.inl ⟨by rfl, ?_⟩) (by assumption) ?_; rotate_left; intro w hSw; (try dsimp only at hSw); go_simp; (try with_reducible rfl))
        | (refine wpAnyH_take (i := 22) (v := undef) (by (simp only [List.getElem?_toArray, List.getElem?_cons_zero, List.getElem?_cons_succ]; rfl)) (by kernel_rfl) (by kernel_rfl) (by kernel_rfl) (by (intro _ _ _ h; exact h)) (Or.inr ⟨by rfl, rfl⟩) (by assumption) ?_)
      (try simp only [Act.put, List.setIfInBounds_toArray, List.set_cons_zero, List.set_cons_succ])
      first
        | (refine wpAnyH_take (i := 23) (v := ?_) (by (simp only [List.getElem?_toArray, List.getElem?_cons_zero, List.getElem?_cons_succ]; rfl)) (by kernel_rfl) (by kernel_rfl) (by kernel_rfl) (by (intro _ _ _ h; exact h)) (Or.inl ⟨by rfl, ?_⟩) (by assumption) ?_; rotate_left; intro w hSw; (try dsimp only at hSw); go_simp; (try with_reducible rfl))
        | (refine wpAnyH_take (i := 23) (v := undef) (by (simp only [List.getElem?_toArray, List.getElem?_cons_zero, List.getElem?_cons_succ]; rfl)) (by kernel_rfl) (by kernel_rfl) (by kernel_rfl) (by (intro _ _ _ h; exact h)) (Or.inr ⟨by rfl, rfl⟩) (by assumption) ?_)
      (try simp only [Act.put, List.setIfInBounds_toArray, List.set_cons_zero, List.set_cons_succ])
      first
        | (refine wpAnyH_take (i := 24) (v := ?_) (by (simp only [List.getElem?_toArray, List.getElem?_cons_zero, List.getElem?_cons_succ]; rfl)) (by kernel_rfl) (by kernel_rfl) (by kernel_rfl) (by (intro _ _ _ h; exact h)) (Or.inl ⟨by rfl, ?_⟩) (by assumption) ?_; rotate_left; intro w hSw; (try dsimp only at hSw); go_simp; (try with_reducible rfl))
        | (refine wpAnyH_take (i := 24) (v := undef) (by (simp only [List.getElem?_toArray, List.getElem?_cons_zero, List.getElem?_cons_succ]; rfl)) (by kernel_rfl) (by kernel_rfl) (by kernel_rfl) (by (intro _ _ _ h; exact h)) (Or.inr ⟨by rfl, rfl⟩) (by assumption) ?_)
      (try simp only [Act.put, List.setIfInBounds_toArray, List.set_cons_zero, List.set_cons_succ])
      first
        | (refine wpAnyH_take (i := 25) (v := ?_) (by (simp only [List.getElem?_toArray, List.getElem?_cons_zero, List.getElem?_cons_succ]; rfl)) (by kernel_rfl) (by kernel_rfl) (by kernel_rfl) (by (intro _ _ _ h; exact h)) (Or.inl ⟨by rfl, ?_⟩) (by assumption) ?_; rotate_left; intro w hSw; (try dsimp only at hSw); go_simp; (try with_reducible rfl))
        | (refine wpAnyH_take (i := 25) (v := undef) (by (simp only [List.getElem?_toArray, List.getElem?_cons_zero, List.getElem?_cons_succ]; rfl)) (by kernel_rfl) (by kernel_rfl) (by kernel_rfl) (by (intro _ _ _ h; exact h)) (Or.inr ⟨by rfl, rfl⟩) (by assumption) ?_)
      (try simp only [Act.put, List.setIfInBounds_toArray, List.set_cons_zero, List.set_cons_succ])
      first
        | (refine wpAnyH_take (i := 26) (v := ?_) (by (simp only [List.getElem?_toArray, List.getElem?_cons_zero, List.getElem?_cons_succ]; rfl)) (by kernel_rfl) (by kernel_rfl) (by kernel_rfl) (by (intro _ _ _ h; exact h)) (Or.inl ⟨by rfl, ?_⟩) (by assumption) ?_; rotate_left; intro w hSw; (try dsimp only at hSw); go_simp; (try with_reducible rfl))
        | (refine wpAnyH_take (i := 26) (v := undef) (by (simp only [List.getElem?_toArray, List.getElem?_cons_zero, List.getElem?_cons_succ]; rfl)) (by kernel_rfl) (by kernel_rfl) (by kernel_rfl) (by (intro _ _ _ h; exact h)) (Or.inr ⟨by rfl, rfl⟩) (by assumption) ?_)
      (try simp only [Act.put, List.setIfInBounds_toArray, List.set_cons_zero, List.set_cons_succ])
      first
        | (refine wpAnyH_take (i := 27) (v := ?_) (by (simp only [List.getElem?_toArray, List.getElem?_cons_zero, List.getElem?_cons_succ]; rfl)) (by kernel_rfl) (by kernel_rfl) (by kernel_rfl) (by (intro _ _ _ h; exact h)) (Or.inl ⟨by rfl, ?_⟩) (by assumption) ?_; rotate_left; intro w hSw; (try dsimp only at hSw); go_simp; (try with_reducible rfl))
        | (refine wpAnyH_take (i := 27) (v := undef) (by (simp only [List.getElem?_toArray, List.getElem?_cons_zero, List.getElem?_cons_succ]; rfl)) (by kernel_rfl) (by kernel_rfl) (by kernel_rfl) (by (intro _ _ _ h; exact h)) (Or.inr ⟨by rfl, rfl⟩) (by assumption) ?_)
      (try simp only [Act.put, List.setIfInBounds_toArray, List.set_cons_zero, List.set_cons_succ])
      first
        | (refine wpAnyH_take (i := 28) (v := ?_) (by (simp only [List.getElem?_toArray, List.getElem?_cons_zero, List.getElem?_cons_succ]; rfl)) (by kernel_rfl) (by kernel_rfl) (by kernel_rfl) (by (intro _ _ _ h; exact h)) (Or.inl ⟨by rfl, ?_⟩) (by assumption) ?_; rotate_left; intro w hSw; (try dsimp only at hSw); go_simp; (try with_reducible rfl))
        | (refine wpAnyH_take (i := 28) (v := undef) (by (simp only [List.getElem?_toArray, List.getElem?_cons_zero, List.getElem?_cons_succ]; rfl)) (by kernel_rfl) (by kernel_rfl) (by kernel_rfl) (by (intro _ _ _ h; exact h)) (Or.inr ⟨by rfl, rfl⟩) (by assumption) ?_)
      (try simp only [Act.put, List.setIfInBounds_toArray, List.set_cons_zero, List.set_cons_succ])
      first
        | (refine wpAnyH_take (i := 29) (v := ?_) (by (simp only [List.getElem?_toArray, List.getElem?_cons_zero, List.getElem?_cons_succ]; rfl)) (by kernel_rfl) (by kernel_rfl) (by kernel_rfl) (by (intro _ _ _ h; exact h)) (Or.inl ⟨by rfl, ?_⟩) (by assumption) ?_; rotate_left; intro w hSw; (try dsimp only at hSw); go_simp; (try with_reducible rfl))
        | (refine wpAnyH_take (i := 29) (v := undef) (by (simp only [List.getElem?_toArray, List.getElem?_cons_zero, List.getElem?_cons_succ]; rfl)) (by kernel_rfl) (by kernel_rfl) (by kernel_rfl) (by (intro _ _ _ h; exact h)) (Or.inr ⟨by rfl, rfl⟩) (by assumption) ?_)
      (try simp only [Act.put, List.setIfInBounds_toArray, List.set_cons_zero, List.set_cons_succ])
      first
        | (refine wpAnyH_take (i := 30) (v := ?_) (by (simp only [List.getElem?_toArray, List.getElem?_cons_zero, List.getElem?_cons_succ]; rfl)) (by kernel_rfl) (by kernel_rfl) (by kernel_rfl) (by (intro _ _ _ h; exact h)) (Or.inl ⟨by rfl, ?_⟩) (by assumption) ?_; rotate_left; intro w hSw; (try dsimp only at hSw); go_simp; (try with_reducible rfl))
        | (refine wpAnyH_take (i := 30) (v := undef) (by (simp only [List.getElem?_toArray, List.getElem?_cons_zero, List.getElem?_cons_succ]; rfl)) (by kernel_rfl) (by kernel_rfl) (by kernel_rfl) (by (intro _ _ _ h; exact h)) (Or.inr ⟨by rfl, rfl⟩) (by assumption) ?_)
      (try simp only [Act.put, List.setIfInBounds_toArray, List.set_cons_zero, List.set_cons_succ])
      first
        | (refine wpAnyH_take (i := 31) (v := ?_) (by (simp only [List.getElem?_toArray, List.getElem?_cons_zero, List.getElem?_cons_succ]; rfl)) (by kernel_rfl) (by kernel_rfl) (by kernel_rfl) (by (intro _ _ _ h; exact h)) (Or.inl ⟨by rfl, ?_⟩) (by assumption) ?_; rotate_left; intro w hSw; (try dsimp only at hSw); go_simp; (try with_reducible rfl))
        | (refine wpAnyH_take (i := 31) (v := undef) (by (simp only [List.getElem?_toArray, List.getElem?_cons_zero, List.getElem?_cons_succ]; rfl)) (by kernel_rfl) (by kernel_rfl) (by kernel_rfl) (by (intro _ _ _ h; exact h)) (Or.inr ⟨by rfl, rfl⟩) (by assumption) ?_)
      (try simp only [Act.put, List.setIfInBounds_toArray, List.set_cons_zero, List.set_cons_succ])
      first
        | (refine wpAnyH_take (i := 32) (v := ?_) (by (simp only [List.getElem?_toArray, List.getElem?_cons_zero, List.getElem?_cons_succ]; rfl)) (by kernel_rfl) (by kernel_rfl) (by kernel_rfl) (by (intro _ _ _ h; exact h)) (Or.inl ⟨by rfl, ?_⟩) (by assumption) ?_; rotate_left; intro w hSw; (try dsimp only at hSw); go_simp; (try with_reducible rfl))
        | (refine wpAnyH_take (i := 32) (v := undef) (by (simp only [List.getElem?_toArray, List.getElem?_cons_zero, List.getElem?_cons_succ]; rfl)) (by kernel_rfl) (by kernel_rfl) (by kernel_rfl) (by (intro _ _ _ h; exact h)) (Or.inr ⟨by rfl, rfl⟩) (by assumption) ?_)
      (try simp only [Act.put, List.setIfInBounds_toArray, List.set_cons_zero, List.set_cons_succ])
      first
        | (refine wpAnyH_take (i := 33) (v := ?_) (by (simp only [List.getElem?_toArray, List.getElem?_cons_zero, List.getElem?_cons_succ]; rfl)) (by kernel_rfl) (by kernel_rfl) (by kernel_rfl) (by (intro _ _ _ h; exact h)) (Or.inl ⟨by rfl, ?_⟩) (by assumption) ?_; rotate_left; intro w hSw; (try dsimp only at hSw); go_simp; (try with_reducible rfl))
        | (refine wpAnyH_take (i := 33) (v := undef) (by (simp only [List.getElem?_toArray, List.getElem?_cons_zero, List.getElem?_cons_succ]; rfl)) (by kernel_rfl) (by kernel_rfl) (by kernel_rfl) (by (intro _ _ _ h; exact h)) (Or.inr ⟨by rfl, rfl⟩) (by assumption) ?_)
      (try simp only [Act.put, List.setIfInBounds_toArray, List.set_cons_zero, List.set_cons_succ])
      first
        | (refine wpAnyH_take (i := 34) (v := ?_) (by (simp only [List.getElem?_toArray, List.getElem?_cons_zero, List.getElem?_cons_succ]; rfl)) (by kernel_rfl) (by kernel_rfl) (by kernel_rfl) (by (intro _ _ _ h; exact h)) (Or.inl ⟨by rfl, ?_⟩) (by assumption) ?_; rotate_left; intro w hSw; (try dsimp only at hSw); go_simp; (try with_reducible rfl))
        | (refine wpAnyH_take (i := 34) (v := undef) (by (simp only [List.getElem?_toArray, List.getElem?_cons_zero, List.getElem?_cons_succ]; rfl)) (by kernel_rfl) (by kernel_rfl) (by kernel_rfl) (by (intro _ _ _ h; exact h)) (Or.inr ⟨by rfl, rfl⟩) (by assumption) ?_)
      (try simp only [Act.put, List.setIfInBounds_toArray, List.set_cons_zero, List.set_cons_succ])
      refine wpAnyH_done (by kernel_rfl) ?_ _
    all_goals (go_wp2_with fail; go_meet; case rel => exact ⟨rfl, by (repeat' (first | (with_reducible exact Below.refl _ _) | (with_reducible assumption) | (with_reducible refine Below.alloc ?_ ?_ _) | (with_reducible refine Below.drew ?_) | (with_reducible refine below_drewN ?_ _) | (with_reducible refine Below.setCell ?_ ?_ _) | (with_reducible refine Below.trans ?_ (Below.mono (by assumption) ?_)) | go_size))⟩)
  case rest =>
    obtain ⟨rfl, hbc⟩ := hcut
    have hzc := hbc.size
    have hB0 : Boxes (((wc.alloc (.cells #[] 40)).alloc (.cells #[] 4)).alloc (.cells #[.int .u64 s0.toNat, .int .u64 s1.toNat, .int .u64 s2.toNat, .int .u64 s3.toNat] 41)) [(w.heap.size, [.int .u64 s0.toNat, .int .u64 s1.toNat, .int .u64 s2.toNat, .int .u64 s3.toNat]), (wc.heap.size + 1 + 1, [.int .u64 s0.toNat, .int .u64 s1.toNat, .int .u64 s2.toNat, .int .u64 s3.toNat])] := Boxes.cons ((((HB1.out.below hbc).alloc _).alloc _).alloc _).head (Boxes.cons (box4 ⟨by go_simp, by go_simp, by go_simp, by go_simp⟩ ⟨by go_simp, by go_simp, by go_simp, by go_simp⟩) (Boxes.nil _))
    have hb0 : Below w.heap.size w (((wc.alloc (.cells #[] 40)).alloc (.cells #[] 4)).alloc (.cells #[.int .u64 s0.toNat, .int .u64 s1.toNat, .int .u64 s2.toNat, .int .u64 s3.toNat] 41)) := ((((HW1.out.trans (hbc.mono (by omega))).alloc (by omega) _).alloc (by simp; omega) _).alloc (by simp; omega) _)
    have hu0 : ((((wc.alloc (.cells #[] 40)).alloc (.cells #[] 4)).alloc (.cells #[.int .u64 s0.toNat, .int .u64 s1.toNat, .int .u64 s2.toNat, .int .u64 s3.toNat] 41))).ownsRow wc.heap.size 40 1 (.slice (some ⟨wc.heap.size, 0, none⟩) 0 0) 0 [] := ((World.ownsRow_made (base := wc.heap.size) (e := 40) (size := 1) (w := wc) #[] 0 (by omega) (by decide) rfl).alloc _).alloc _
    have hv0 : ((((wc.alloc (.cells #[] 40)).alloc (.cells #[] 4)).alloc (.cells #[.int .u64 s0.toNat, .int .u64 s1.toNat, .int .u64 s2.toNat, .int .u64 s3.toNat] 41))).ownsRow wc.heap.size 4 1 (.slice (some ⟨wc.heap.size + 1, 0, none⟩) 0 0) 0 [] := by
      have h := (World.ownsRow_made (base := wc.heap.size) (e := 4) (size := 1) (w := wc.alloc (.cells #[] 40)) #[] 0 (by simp) (by decide) rfl)
      have e : (wc.alloc (.cells #[] 40)).heap.size = wc.heap.size + 1 := by simp
      rw [e] at h
      exact h.alloc _
    obtain ⟨n, hn⟩ : ∃ n : Nat, (if m < 0 ∨ 2048 < m then 0 else m.toNat) = n := ⟨_, rfl⟩
    have hn2 : n ≤ 2048 := by rw [← hn]; split <;> omega
    have hn3 : (m < 0 ∧ n = 0) ∨ (2048 < m ∧ n = 0) ∨ (m = n) := by rw [← hn]; split <;> omega
    have HN3 := Lib.hid hn3
    have HB0 := Lib.hid hB0
    have HU0 := Lib.hid hu0
    have HV0 := Lib.hid hv0
    have Hb0 := Lib.hid hb0
    have hBc := HB1.out.below hbc
    have fcwc_s0 : wc.cell? ⟨w.heap.size, 0, none⟩ = some (.int .u64 s0.toNat) := (hBc.head 0 _ rfl).1; have ffwc_s0 : wc.frozen? ⟨w.heap.size, 0, none⟩ = false := (hBc.head 0 _ rfl).2; have fcwc_s1 : wc.cell? ⟨w.heap.size, 1, none⟩ = some (.int .u64 s1.toNat) := (hBc.head 1 _ rfl).1; have ffwc_s1 : wc.frozen? ⟨w.heap.size, 1, none⟩ = false := (hBc.head 1 _ rfl).2; have fcwc_s2 : wc.cell? ⟨w.heap.size, 2, none⟩ = some (.int .u64 s2.toNat) := (hBc.head 2 _ rfl).1; have ffwc_s2 : wc.frozen? ⟨w.heap.size, 2, none⟩ = false := (hBc.head 2 _ rfl).2; have fcwc_s3 : wc.cell? ⟨w.heap.size, 3, none⟩ = some (.int .u64 s3.toNat) := (hBc.head 3 _ rfl).1; have ffwc_s3 : wc.frozen? ⟨w.heap.size, 3, none⟩ = false := (hBc.head 3 _ rfl).2
    clear hBc hn hn3 hB0 hu0 hv0 hb0 hbc D1 D2 D3 D4 HB1 HW1
    go_wp2_with fail
    go_loopw [5, 6, 8] (fun va vb i wr => ∃ (j : Nat) (x : St), j ≤ n ∧ i = .int .i64 j ∧ Hid (Xo.it j ⟨s0, s1, s2, s3⟩ = x) ∧ Boxes wr [(w.heap.size, [.int .u64 s0.toNat, .int .u64 s1.toNat, .int .u64 s2.toNat, .int .u64 s3.toNat]), (wc.heap.size + 1 + 1, [.int .u64 (x).a.toNat, .int .u64 (x).b.toNat, .int .u64 (x).c.toNat, .int .u64 (x).d.toNat])] ∧
      wr.ownsRow wc.heap.size 40 1 va (min j 256) (u64s (Xo.words (min j 256) ⟨s0, s1, s2, s3⟩)) ∧ wr.ownsRow wc.heap.size 4 1 vb j (bools (Xo.bitsL j ⟨s0, s1, s2, s3⟩)) ∧
      (Away va vb ∧ Apart va w.heap.size ∧ Apart vb w.heap.size ∧ Apart va (wc.heap.size + 1 + 1) ∧ Apart vb (wc.heap.size + 1 + 1)) ∧ wc.heap.size + 1 + 1 < wr.heap.size ∧ Below w.heap.size w wr) (fun _ _ i _ => n - (intOf i).toNat)
    case atStart => exact ⟨0, ⟨s0, s1, s2, s3⟩, by omega, rfl, Lib.hid rfl, HB0.out, HU0.out, HV0.out, by simp [Away, Apart, Value.ownBlock]; omega, by simp, Hb0.out⟩
    case round =>
      obtain ⟨j, ⟨x0, x1, x2, x3⟩, hj, rfl, hx, hB, hu, hv, hap, hz, hb⟩ := hrel
      have hBx : Boxes wr [(w.heap.size, [.int .u64 s0.toNat, .int .u64 s1.toNat, .int .u64 s2.toNat, .int .u64 s3.toNat]), (wc.heap.size + 1 + 1, [.int .u64 x0.toNat, .int .u64 x1.toNat, .int .u64 x2.toNat, .int .u64 x3.toNat])] := hB
      have fcwr_s0 : wr.cell? ⟨w.heap.size, 0, none⟩ = some (.int .u64 s0.toNat) := (hBx.head 0 _ rfl).1; have ffwr_s0 : wr.frozen? ⟨w.heap.size, 0, none⟩ = false := (hBx.head 0 _ rfl).2; have fcwr_s1 : wr.cell? ⟨w.heap.size, 1, none⟩ = some (.int .u64 s1.toNat) := (hBx.head 1 _ rfl).1; have ffwr_s1 : wr.frozen? ⟨w.heap.size, 1, none⟩ = false := (hBx.head 1 _ rfl).2; have fcwr_s2 : wr.cell? ⟨w.heap.size, 2, none⟩ = some (.int .u64 s2.toNat) := (hBx.head 2 _ rfl).1; have ffwr_s2 : wr.frozen? ⟨w.heap.size, 2, none⟩ = false := (hBx.head 2 _ rfl).2; have fcwr_s3 : wr.cell? ⟨w.heap.size, 3, none⟩ = some (.int .u64 s3.toNat) := (hBx.head 3 _ rfl).1; have ffwr_s3 : wr.frozen? ⟨w.heap.size, 3, none⟩ = false := (hBx.head 3 _ rfl).2; have fcwr_y0 : wr.cell? ⟨wc.heap.size + 1 + 1, 0, none⟩ = some (.int .u64 x0.toNat) := (hBx.tail.head 0 _ rfl).1; have ffwr_y0 : wr.frozen? ⟨wc.heap.size + 1 + 1, 0, none⟩ = false := (hBx.tail.head 0 _ rfl).2; have fcwr_y1 : wr.cell? ⟨wc.heap.size + 1 + 1, 1, none⟩ = some (.int .u64 x1.toNat) := (hBx.tail.head 1 _ rfl).1; have ffwr_y1 : wr.frozen? ⟨wc.heap.size + 1 + 1, 1, none⟩ = false := (hBx.tail.head 1 _ rfl).2; have fcwr_y2 : wr.cell? ⟨wc.heap.size + 1 + 1, 2, none⟩ = some (.int .u64 x2.toNat) := (hBx.tail.head 2 _ rfl).1; have ffwr_y2 : wr.frozen? ⟨wc.heap.size + 1 + 1, 2, none⟩ = false := (hBx.tail.head 2 _ rfl).2; have fcwr_y3 : wr.cell? ⟨wc.heap.size + 1 + 1, 3, none⟩ = some (.int .u64 x3.toNat) := (hBx.tail.head 3 _ rfl).1; have ffwr_y3 : wr.frozen? ⟨wc.heap.size + 1 + 1, 3, none⟩ = false := (hBx.tail.head 3 _ rfl).2
      have HB := Lib.hid hBx
      have HU := Lib.hid hu
      have HV := Lib.hid hv
      have HP := Lib.hid hap
      clear hB hBx hu hv hap
      by_cases hlt : j < n
      · have l1 : (j : Int) < m := by have := HN3.out; omega
        have l2 : m ≤ 2048 := by have := HN3.out; omega
        by_cases h256 : j < 256
        · have l3 : (j : Int) < 256 := by omega
          go_wp2_with fail
          refine (rxword_c _ _ _ _ _).mono ?_
          rintro e w2 ⟨rfl, hb2⟩
          have hu2 := owns_below HU.out hb2
          have hz2 := hb2.size
          go_wp2_with (at_builtin; refine wpList_append_own_at _ rfl _ _ 48 rfl wc.heap.size 40 iu (.int .u64 0) 1 8 Try.underlying48 hiu hiu0 hiu1 hiu2 rfl (by decide) _ _ _ rfl (hu2.alloc _) ⟨w2.heap.size, 0, none⟩ 1 1 [.int .u64 (Xo.word ⟨x0, x1, x2, x3⟩).toNat] rfl rfl ?qa ?qb ?qc ?qd ?qe ?_)
          case qa => exact one_new _ _ _
          case qb => exact one_u64 _
          case qc => unfold maxLen; omega
          case qd => omega
          case qe => exact (by first | omega | (simp; done) | (simp; omega))
          intro va3 w3 hu3 hg3 _ hat3
          have hv3 := owns_away ((owns_below HV.out hb2).alloc _) hg3 HP.out.1
          have B3 : Boxes w3 [(w.heap.size, [.int .u64 s0.toNat, .int .u64 s1.toNat, .int .u64 s2.toNat, .int .u64 s3.toNat]), (wc.heap.size + 1 + 1, [.int .u64 x0.toNat, .int .u64 x1.toNat, .int .u64 x2.toNat, .int .u64 x3.toNat])] := Boxes.apart ((HB.out.below hb2).alloc _) hg3 (by have := HP.out; intro q hq; simp at hq; rcases hq with rfl | rfl; exact this.2.1; exact this.2.2.2.1)
          have b3 : Below w.heap.size w w3 := Below.grown ((hb.trans (hb2.mono (by omega))).alloc (by omega) _) hg3 (by simp; omega) (fun k e => by have := (hu2.lt _ e).1; omega)
          have hz3 : wc.heap.size + 1 + 1 < w3.heap.size := by have := hg3.size; simp at this; omega
          have hu3' : w3.ownsRow wc.heap.size 40 1 va3 (min (j + 1) 256) (u64s (Xo.words (min (j + 1) 256) ⟨s0, s1, s2, s3⟩)) := by
            have e1 : min j 256 = j := by omega
            have e2 : min (j + 1) 256 = j + 1 := by omega
            rw [e1] at hu3
            rw [e2, Xo.words_succ, hx.out, u64s_snoc]; exact hu3
          have P3 : Away va3 u6 ∧ Apart va3 w.heap.size ∧ Apart u6 w.heap.size ∧ Apart va3 (wc.heap.size + 1 + 1) ∧ Apart u6 (wc.heap.size + 1 + 1) := by
            have hp := HP.out
            exact ⟨away_at hp.1 hat3 (owns_below HV.out hb2) (by omega), apart_at hp.2.1 hat3 (by omega), hp.2.2.1, apart_at hp.2.2.2.1 hat3 (by omega), hp.2.2.2.2⟩
          have HU3 := Lib.hid hu3'
          have HV3 := Lib.hid hv3
          have HB3 := Lib.hid B3
          have Hb3 := Lib.hid b3
          have HP3 := Lib.hid P3
          clear HU HV HB HP hb hb2 hu2 hu3 hg3 hat3
          have fcw3_s0 : w3.cell? ⟨w.heap.size, 0, none⟩ = some (.int .u64 s0.toNat) := (B3.head 0 _ rfl).1; have ffw3_s0 : w3.frozen? ⟨w.heap.size, 0, none⟩ = false := (B3.head 0 _ rfl).2; have fcw3_s1 : w3.cell? ⟨w.heap.size, 1, none⟩ = some (.int .u64 s1.toNat) := (B3.head 1 _ rfl).1; have ffw3_s1 : w3.frozen? ⟨w.heap.size, 1, none⟩ = false := (B3.head 1 _ rfl).2; have fcw3_s2 : w3.cell? ⟨w.heap.size, 2, none⟩ = some (.int .u64 s2.toNat) := (B3.head 2 _ rfl).1; have ffw3_s2 : w3.frozen? ⟨w.heap.size, 2, none⟩ = false := (B3.head 2 _ rfl).2; have fcw3_s3 : w3.cell? ⟨w.heap.size, 3, none⟩ = some (.int .u64 s3.toNat) := (B3.head 3 _ rfl).1; have ffw3_s3 : w3.frozen? ⟨w.heap.size, 3, none⟩ = false := (B3.head 3 _ rfl).2; have fcw3_y0 : w3.cell? ⟨wc.heap.size + 1 + 1, 0, none⟩ = some (.int .u64 x0.toNat) := (B3.tail.head 0 _ rfl).1; have ffw3_y0 : w3.frozen? ⟨wc.heap.size + 1 + 1, 0, none⟩ = false := (B3.tail.head 0 _ rfl).2; have fcw3_y1 : w3.cell? ⟨wc.heap.size + 1 + 1, 1, none⟩ = some (.int .u64 x1.toNat) := (B3.tail.head 1 _ rfl).1; have ffw3_y1 : w3.frozen? ⟨wc.heap.size + 1 + 1, 1, none⟩ = false := (B3.tail.head 1 _ rfl).2; have fcw3_y2 : w3.cell? ⟨wc.heap.size + 1 + 1, 2, none⟩ = some (.int .u64 x2.toNat) := (B3.tail.head 2 _ rfl).1; have ffw3_y2 : w3.frozen? ⟨wc.heap.size + 1 + 1, 2, none⟩ = false := (B3.tail.head 2 _ rfl).2; have fcw3_y3 : w3.cell? ⟨wc.heap.size + 1 + 1, 3, none⟩ = some (.int .u64 x3.toNat) := (B3.tail.head 3 _ rfl).1; have ffw3_y3 : w3.frozen? ⟨wc.heap.size + 1 + 1, 3, none⟩ = false := (B3.tail.head 3 _ rfl).2
          have ix : ∀ w, (Instr.index 41 (.agg #[.int .u64 x0.toNat, .int .u64 x1.toNat, .int .u64 x2.toNat, .int .u64 x3.toNat]) (.int .i64 0)).run Try.prog w = .ok (.int .u64 x0.toNat) w := fun _ => by kernel_rfl
          clear B3 P3 hu3' b3
          go_wp2_with (at_builtin; refine wpList_append_own_at _ rfl _ _ 49 rfl wc.heap.size 4 ib (.bool false) 1 1 Try.underlying49 hib hib0 hib1 hib2 rfl (by decide) _ _ _ rfl (hv3.alloc _) ⟨w3.heap.size, 0, none⟩ 1 1 [.bool ((x0.toNat : Int) % 2 == 1)] rfl rfl ?qa ?qb ?qc ?qd ?qe ?_)
          case qa => exact one_new _ _ _
          case qb => first | exact one_bool _ | rfl
          case qc => unfold maxLen; omega
          case qd => omega
          case qe => exact (by first | omega | (simp; done) | (simp; omega))
          intro vb4 w4 hv4 hg4 _ hat4
          have hu4 := owns_away (HU3.out.alloc _) hg4 (away_symm HP3.out.1)
          have B4 : Boxes w4 [(w.heap.size, [.int .u64 s0.toNat, .int .u64 s1.toNat, .int .u64 s2.toNat, .int .u64 s3.toNat]), (wc.heap.size + 1 + 1, [.int .u64 x0.toNat, .int .u64 x1.toNat, .int .u64 x2.toNat, .int .u64 x3.toNat])] := Boxes.apart (HB3.out.alloc _) hg4 (by have := HP3.out; intro q hq; simp at hq; rcases hq with rfl | rfl; exact this.2.2.1; exact this.2.2.2.2)
          have b4 : Below w.heap.size w w4 := Below.grown (Hb3.out.alloc (by omega) _) hg4 (by simp; omega) (fun k e => by have := (HV3.out.lt _ e).1; omega)
          have hz4 : wc.heap.size + 1 + 1 < w4.heap.size := by have := hg4.size; simp at this; omega
          have hv4' : w4.ownsRow wc.heap.size 4 1 vb4 (j + 1) (bools (Xo.bitsL (j + 1) ⟨s0, s1, s2, s3⟩)) := by
            rw [Xo.bits_succ, hx.out, bools_snoc]; exact hv4
          have P4 : Away va3 vb4 ∧ Apart va3 w.heap.size ∧ Apart vb4 w.heap.size ∧ Apart va3 (wc.heap.size + 1 + 1) ∧ Apart vb4 (wc.heap.size + 1 + 1) := by
            have hp := HP3.out
            exact ⟨away_symm (away_at (away_symm hp.1) hat4 HU3.out (by omega)), hp.2.1, apart_at hp.2.2.1 hat4 (by omega), hp.2.2.2.1, apart_at hp.2.2.2.2 hat4 (by omega)⟩
          have HU4 := Lib.hid hu4
          have HV4 := Lib.hid hv4'
          have HB4 := Lib.hid B4
          have Hb4 := Lib.hid b4
          have HP4 := Lib.hid P4
          clear HU3 HV3 HB3 Hb3 HP3 hv3 hv4 hg4 hat4 hu4 hv4' b4 P4
          have fcw4_s0 : w4.cell? ⟨w.heap.size, 0, none⟩ = some (.int .u64 s0.toNat) := (B4.head 0 _ rfl).1; have ffw4_s0 : w4.frozen? ⟨w.heap.size, 0, none⟩ = false := (B4.head 0 _ rfl).2; have fcw4_s1 : w4.cell? ⟨w.heap.size, 1, none⟩ = some (.int .u64 s1.toNat) := (B4.head 1 _ rfl).1; have ffw4_s1 : w4.frozen? ⟨w.heap.size, 1, none⟩ = false := (B4.head 1 _ rfl).2; have fcw4_s2 : w4.cell? ⟨w.heap.size, 2, none⟩ = some (.int .u64 s2.toNat) := (B4.head 2 _ rfl).1; have ffw4_s2 : w4.frozen? ⟨w.heap.size, 2, none⟩ = false := (B4.head 2 _ rfl).2; have fcw4_s3 : w4.cell? ⟨w.heap.size, 3, none⟩ = some (.int .u64 s3.toNat) := (B4.head 3 _ rfl).1; have ffw4_s3 : w4.frozen? ⟨w.heap.size, 3, none⟩ = false := (B4.head 3 _ rfl).2; have fcw4_y0 : w4.cell? ⟨wc.heap.size + 1 + 1, 0, none⟩ = some (.int .u64 x0.toNat) := (B4.tail.head 0 _ rfl).1; have ffw4_y0 : w4.frozen? ⟨wc.heap.size + 1 + 1, 0, none⟩ = false := (B4.tail.head 0 _ rfl).2; have fcw4_y1 : w4.cell? ⟨wc.heap.size + 1 + 1, 1, none⟩ = some (.int .u64 x1.toNat) := (B4.tail.head 1 _ rfl).1; have ffw4_y1 : w4.frozen? ⟨wc.heap.size + 1 + 1, 1, none⟩ = false := (B4.tail.head 1 _ rfl).2; have fcw4_y2 : w4.cell? ⟨wc.heap.size + 1 + 1, 2, none⟩ = some (.int .u64 x2.toNat) := (B4.tail.head 2 _ rfl).1; have ffw4_y2 : w4.frozen? ⟨wc.heap.size + 1 + 1, 2, none⟩ = false := (B4.tail.head 2 _ rfl).2; have fcw4_y3 : w4.cell? ⟨wc.heap.size + 1 + 1, 3, none⟩ = some (.int .u64 x3.toNat) := (B4.tail.head 3 _ rfl).1; have ffw4_y3 : w4.frozen? ⟨wc.heap.size + 1 + 1, 3, none⟩ = false := (B4.tail.head 3 _ rfl).2
          clear B4
          go_wp2_with fail
          refine (rxstep_c _ _ _ _ _).mono ?_
          rintro e w5 ⟨rfl, hb5⟩
          have hz5 := hb5.size
          have B5 : Boxes w5 [(w.heap.size, [.int .u64 s0.toNat, .int .u64 s1.toNat, .int .u64 s2.toNat, .int .u64 s3.toNat]), (wc.heap.size + 1 + 1, [.int .u64 x0.toNat, .int .u64 x1.toNat, .int .u64 x2.toNat, .int .u64 x3.toNat])] := HB4.out.below hb5
          have fcw5_s0 : w5.cell? ⟨w.heap.size, 0, none⟩ = some (.int .u64 s0.toNat) := (B5.head 0 _ rfl).1; have ffw5_s0 : w5.frozen? ⟨w.heap.size, 0, none⟩ = false := (B5.head 0 _ rfl).2; have fcw5_s1 : w5.cell? ⟨w.heap.size, 1, none⟩ = some (.int .u64 s1.toNat) := (B5.head 1 _ rfl).1; have ffw5_s1 : w5.frozen? ⟨w.heap.size, 1, none⟩ = false := (B5.head 1 _ rfl).2; have fcw5_s2 : w5.cell? ⟨w.heap.size, 2, none⟩ = some (.int .u64 s2.toNat) := (B5.head 2 _ rfl).1; have ffw5_s2 : w5.frozen? ⟨w.heap.size, 2, none⟩ = false := (B5.head 2 _ rfl).2; have fcw5_s3 : w5.cell? ⟨w.heap.size, 3, none⟩ = some (.int .u64 s3.toNat) := (B5.head 3 _ rfl).1; have ffw5_s3 : w5.frozen? ⟨w.heap.size, 3, none⟩ = false := (B5.head 3 _ rfl).2; have fcw5_y0 : w5.cell? ⟨wc.heap.size + 1 + 1, 0, none⟩ = some (.int .u64 x0.toNat) := (B5.tail.head 0 _ rfl).1; have ffw5_y0 : w5.frozen? ⟨wc.heap.size + 1 + 1, 0, none⟩ = false := (B5.tail.head 0 _ rfl).2; have fcw5_y1 : w5.cell? ⟨wc.heap.size + 1 + 1, 1, none⟩ = some (.int .u64 x1.toNat) := (B5.tail.head 1 _ rfl).1; have ffw5_y1 : w5.frozen? ⟨wc.heap.size + 1 + 1, 1, none⟩ = false := (B5.tail.head 1 _ rfl).2; have fcw5_y2 : w5.cell? ⟨wc.heap.size + 1 + 1, 2, none⟩ = some (.int .u64 x2.toNat) := (B5.tail.head 2 _ rfl).1; have ffw5_y2 : w5.frozen? ⟨wc.heap.size + 1 + 1, 2, none⟩ = false := (B5.tail.head 2 _ rfl).2; have fcw5_y3 : w5.cell? ⟨wc.heap.size + 1 + 1, 3, none⟩ = some (.int .u64 x3.toNat) := (B5.tail.head 3 _ rfl).1; have ffw5_y3 : w5.frozen? ⟨wc.heap.size + 1 + 1, 3, none⟩ = false := (B5.tail.head 3 _ rfl).2
          clear B5
          go_wp2
          go_roundw
          case measure => simp [intOf]; omega
          case rel =>
            have b4 := Hb4.out
            exact ⟨j + 1, Xo.step ⟨x0, x1, x2, x3⟩, by omega, by go_num, Lib.hid (by rw [Xo.it, hx.out]), (Boxes.cons (box4 ⟨by go_simp, by go_simp, by go_simp, by go_simp⟩ ⟨by go_simp, by go_simp, by go_simp, by go_simp⟩) (Boxes.cons (box4 ⟨by go_simp, by go_simp, by go_simp, by go_simp⟩ ⟨by go_simp, by go_simp, by go_simp, by go_simp⟩) (Boxes.nil _))), owns_apart (owns_below HU4.out hb5) (by (repeat' (first | (with_reducible exact World.grownBy.refl _ _) | (with_reducible assumption) | (with_reducible refine gb_alloc ?_ _) | (with_reducible refine gb_drew ?_) | (with_reducible refine gb_drewN ?_ _) | (with_reducible refine gb_set ?_ ?_ _) | (with_reducible refine gb_below ?_ (by assumption)) | (exact Or.inl rfl) | (refine Or.inr ?_) | go_size))) HP4.out.2.2.2.1, owns_apart (owns_below HV4.out hb5) (by (repeat' (first | (with_reducible exact World.grownBy.refl _ _) | (with_reducible assumption) | (with_reducible refine gb_alloc ?_ _) | (with_reducible refine gb_drew ?_) | (with_reducible refine gb_drewN ?_ _) | (with_reducible refine gb_set ?_ ?_ _) | (with_reducible refine gb_below ?_ (by assumption)) | (exact Or.inl rfl) | (refine Or.inr ?_) | go_size))) HP4.out.2.2.2.2, HP4.out, by simp; omega, by (repeat' (first | (with_reducible exact Below.refl _ _) | (with_reducible assumption) | (with_reducible refine Below.alloc ?_ ?_ _) | (with_reducible refine Below.drew ?_) | (with_reducible refine below_drewN ?_ _) | (with_reducible refine Below.setCell ?_ ?_ _) | (with_reducible refine Below.trans ?_ (Below.mono (by assumption) ?_)) | go_size))⟩
        · skip
          have l3 : ¬ (j : Int) < 256 := by omega
          have hv3 := HV.out
          have B3 := HB.out
          have b3 := hb
          have hz3 := hz
          have hu3' : wr.ownsRow wc.heap.size 40 1 u5 (min (j + 1) 256) (u64s (Xo.words (min (j + 1) 256) ⟨s0, s1, s2, s3⟩)) := by
            have e1 : min (j + 1) 256 = min j 256 := by omega
            rw [e1]; exact HU.out
          have P3 := HP.out
          have HU3 := Lib.hid hu3'
          have HV3 := Lib.hid hv3
          have HB3 := Lib.hid B3
          have Hb3 := Lib.hid b3
          have HP3 := Lib.hid P3
          clear HU HV HB HP
          have fcwr_s0 : wr.cell? ⟨w.heap.size, 0, none⟩ = some (.int .u64 s0.toNat) := (B3.head 0 _ rfl).1; have ffwr_s0 : wr.frozen? ⟨w.heap.size, 0, none⟩ = false := (B3.head 0 _ rfl).2; have fcwr_s1 : wr.cell? ⟨w.heap.size, 1, none⟩ = some (.int .u64 s1.toNat) := (B3.head 1 _ rfl).1; have ffwr_s1 : wr.frozen? ⟨w.heap.size, 1, none⟩ = false := (B3.head 1 _ rfl).2; have fcwr_s2 : wr.cell? ⟨w.heap.size, 2, none⟩ = some (.int .u64 s2.toNat) := (B3.head 2 _ rfl).1; have ffwr_s2 : wr.frozen? ⟨w.heap.size, 2, none⟩ = false := (B3.head 2 _ rfl).2; have fcwr_s3 : wr.cell? ⟨w.heap.size, 3, none⟩ = some (.int .u64 s3.toNat) := (B3.head 3 _ rfl).1; have ffwr_s3 : wr.frozen? ⟨w.heap.size, 3, none⟩ = false := (B3.head 3 _ rfl).2; have fcwr_y0 : wr.cell? ⟨wc.heap.size + 1 + 1, 0, none⟩ = some (.int .u64 x0.toNat) := (B3.tail.head 0 _ rfl).1; have ffwr_y0 : wr.frozen? ⟨wc.heap.size + 1 + 1, 0, none⟩ = false := (B3.tail.head 0 _ rfl).2; have fcwr_y1 : wr.cell? ⟨wc.heap.size + 1 + 1, 1, none⟩ = some (.int .u64 x1.toNat) := (B3.tail.head 1 _ rfl).1; have ffwr_y1 : wr.frozen? ⟨wc.heap.size + 1 + 1, 1, none⟩ = false := (B3.tail.head 1 _ rfl).2; have fcwr_y2 : wr.cell? ⟨wc.heap.size + 1 + 1, 2, none⟩ = some (.int .u64 x2.toNat) := (B3.tail.head 2 _ rfl).1; have ffwr_y2 : wr.frozen? ⟨wc.heap.size + 1 + 1, 2, none⟩ = false := (B3.tail.head 2 _ rfl).2; have fcwr_y3 : wr.cell? ⟨wc.heap.size + 1 + 1, 3, none⟩ = some (.int .u64 x3.toNat) := (B3.tail.head 3 _ rfl).1; have ffwr_y3 : wr.frozen? ⟨wc.heap.size + 1 + 1, 3, none⟩ = false := (B3.tail.head 3 _ rfl).2
          have ix : ∀ w, (Instr.index 41 (.agg #[.int .u64 x0.toNat, .int .u64 x1.toNat, .int .u64 x2.toNat, .int .u64 x3.toNat]) (.int .i64 0)).run Try.prog w = .ok (.int .u64 x0.toNat) w := fun _ => by kernel_rfl
          clear B3 P3 hu3' b3
          go_wp2_with (at_builtin; refine wpList_append_own_at _ rfl _ _ 49 rfl wc.heap.size 4 ib (.bool false) 1 1 Try.underlying49 hib hib0 hib1 hib2 rfl (by decide) _ _ _ rfl (hv3.alloc _) ⟨wr.heap.size, 0, none⟩ 1 1 [.bool ((x0.toNat : Int) % 2 == 1)] rfl rfl ?qa ?qb ?qc ?qd ?qe ?_)
          skip
          case qb => first | exact one_bool _ | rfl
          case qc => unfold maxLen; omega
          case qd => omega
          case qe => exact (by first | omega | (simp; done) | (simp; omega))
          intro vb4 w4 hv4 hg4 _ hat4
          have hu4 := owns_away (HU3.out.alloc _) hg4 (away_symm HP3.out.1)
          have B4 : Boxes w4 [(w.heap.size, [.int .u64 s0.toNat, .int .u64 s1.toNat, .int .u64 s2.toNat, .int .u64 s3.toNat]), (wc.heap.size + 1 + 1, [.int .u64 x0.toNat, .int .u64 x1.toNat, .int .u64 x2.toNat, .int .u64 x3.toNat])] := Boxes.apart (HB3.out.alloc _) hg4 (by have := HP3.out; intro q hq; simp at hq; rcases hq with rfl | rfl; exact this.2.2.1; exact this.2.2.2.2)
          have b4 : Below w.heap.size w w4 := Below.grown (Hb3.out.alloc (by omega) _) hg4 (by simp; omega) (fun k e => by have := (HV3.out.lt _ e).1; omega)
          have hz4 : wc.heap.size + 1 + 1 < w4.heap.size := by have := hg4.size; simp at this; omega
          have hv4' : w4.ownsRow wc.heap.size 4 1 vb4 (j + 1) (bools (Xo.bitsL (j + 1) ⟨s0, s1, s2, s3⟩)) := by
            rw [Xo.bits_succ, hx.out, bools_snoc]; exact hv4
          have P4 : Away u5 vb4 ∧ Apart u5 w.heap.size ∧ Apart vb4 w.heap.size ∧ Apart u5 (wc.heap.size + 1 + 1) ∧ Apart vb4 (wc.heap.size + 1 + 1) := by
            have hp := HP3.out
            exact ⟨away_symm (away_at (away_symm hp.1) hat4 HU3.out (by omega)), hp.2.1, apart_at hp.2.2.1 hat4 (by omega), hp.2.2.2.1, apart_at hp.2.2.2.2 hat4 (by omega)⟩
          have HU4 := Lib.hid hu4
          have HV4 := Lib.hid hv4'
          have HB4 := Lib.hid B4
          have Hb4 := Lib.hid b4
          have HP4 := Lib.hid P4
          clear HU3 HV3 HB3 Hb3 HP3 hv3 hv4 hg4 hat4 hu4 hv4' b4 P4
          have fcw4_s0 : w4.cell? ⟨w.heap.size, 0, none⟩ = some (.int .u64 s0.toNat) := (B4.head 0 _ rfl).1; have ffw4_s0 : w4.frozen? ⟨w.heap.size, 0, none⟩ = false := (B4.head 0 _ rfl).2; have fcw4_s1 : w4.cell? ⟨w.heap.size, 1, none⟩ = some (.int .u64 s1.toNat) := (B4.head 1 _ rfl).1; have ffw4_s1 : w4.frozen? ⟨w.heap.size, 1, none⟩ = false := (B4.head 1 _ rfl).2; have fcw4_s2 : w4.cell? ⟨w.heap.size, 2, none⟩ = some (.int .u64 s2.toNat) := (B4.head 2 _ rfl).1; have ffw4_s2 : w4.frozen? ⟨w.heap.size, 2, none⟩ = false := (B4.head 2 _ rfl).2; have fcw4_s3 : w4.cell? ⟨w.heap.size, 3, none⟩ = some (.int .u64 s3.toNat) := (B4.head 3 _ rfl).1; have ffw4_s3 : w4.frozen? ⟨w.heap.size, 3, none⟩ = false := (B4.head 3 _ rfl).2; have fcw4_y0 : w4.cell? ⟨wc.heap.size + 1 + 1, 0, none⟩ = some (.int .u64 x0.toNat) := (B4.tail.head 0 _ rfl).1; have ffw4_y0 : w4.frozen? ⟨wc.heap.size + 1 + 1, 0, none⟩ = false := (B4.tail.head 0 _ rfl).2; have fcw4_y1 : w4.cell? ⟨wc.heap.size + 1 + 1, 1, none⟩ = some (.int .u64 x1.toNat) := (B4.tail.head 1 _ rfl).1; have ffw4_y1 : w4.frozen? ⟨wc.heap.size + 1 + 1, 1, none⟩ = false := (B4.tail.head 1 _ rfl).2; have fcw4_y2 : w4.cell? ⟨wc.heap.size + 1 + 1, 2, none⟩ = some (.int .u64 x2.toNat) := (B4.tail.head 2 _ rfl).1; have ffw4_y2 : w4.frozen? ⟨wc.heap.size + 1 + 1, 2, none⟩ = false := (B4.tail.head 2 _ rfl).2; have fcw4_y3 : w4.cell? ⟨wc.heap.size + 1 + 1, 3, none⟩ = some (.int .u64 x3.toNat) := (B4.tail.head 3 _ rfl).1; have ffw4_y3 : w4.frozen? ⟨wc.heap.size + 1 + 1, 3, none⟩ = false := (B4.tail.head 3 _ rfl).2
          clear B4
          go_wp2_with fail
          refine (rxstep_c _ _ _ _ _).mono ?_
          rintro e w5 ⟨rfl, hb5⟩
          have hz5 := hb5.size
          have B5 : Boxes w5 [(w.heap.size, [.int .u64 s0.toNat, .int .u64 s1.toNat, .int .u64 s2.toNat, .int .u64 s3.toNat]), (wc.heap.size + 1 + 1, [.int .u64 x0.toNat, .int .u64 x1.toNat, .int .u64 x2.toNat, .int .u64 x3.toNat])] := HB4.out.below hb5
          have fcw5_s0 : w5.cell? ⟨w.heap.size, 0, none⟩ = some (.int .u64 s0.toNat) := (B5.head 0 _ rfl).1; have ffw5_s0 : w5.frozen? ⟨w.heap.size, 0, none⟩ = false := (B5.head 0 _ rfl).2; have fcw5_s1 : w5.cell? ⟨w.heap.size, 1, none⟩ = some (.int .u64 s1.toNat) := (B5.head 1 _ rfl).1; have ffw5_s1 : w5.frozen? ⟨w.heap.size, 1, none⟩ = false := (B5.head 1 _ rfl).2; have fcw5_s2 : w5.cell? ⟨w.heap.size, 2, none⟩ = some (.int .u64 s2.toNat) := (B5.head 2 _ rfl).1; have ffw5_s2 : w5.frozen? ⟨w.heap.size, 2, none⟩ = false := (B5.head 2 _ rfl).2; have fcw5_s3 : w5.cell? ⟨w.heap.size, 3, none⟩ = some (.int .u64 s3.toNat) := (B5.head 3 _ rfl).1; have ffw5_s3 : w5.frozen? ⟨w.heap.size, 3, none⟩ = false := (B5.head 3 _ rfl).2; have fcw5_y0 : w5.cell? ⟨wc.heap.size + 1 + 1, 0, none⟩ = some (.int .u64 x0.toNat) := (B5.tail.head 0 _ rfl).1; have ffw5_y0 : w5.frozen? ⟨wc.heap.size + 1 + 1, 0, none⟩ = false := (B5.tail.head 0 _ rfl).2; have fcw5_y1 : w5.cell? ⟨wc.heap.size + 1 + 1, 1, none⟩ = some (.int .u64 x1.toNat) := (B5.tail.head 1 _ rfl).1; have ffw5_y1 : w5.frozen? ⟨wc.heap.size + 1 + 1, 1, none⟩ = false := (B5.tail.head 1 _ rfl).2; have fcw5_y2 : w5.cell? ⟨wc.heap.size + 1 + 1, 2, none⟩ = some (.int .u64 x2.toNat) := (B5.tail.head 2 _ rfl).1; have ffw5_y2 : w5.frozen? ⟨wc.heap.size + 1 + 1, 2, none⟩ = false := (B5.tail.head 2 _ rfl).2; have fcw5_y3 : w5.cell? ⟨wc.heap.size + 1 + 1, 3, none⟩ = some (.int .u64 x3.toNat) := (B5.tail.head 3 _ rfl).1; have ffw5_y3 : w5.frozen? ⟨wc.heap.size + 1 + 1, 3, none⟩ = false := (B5.tail.head 3 _ rfl).2
          clear B5
          go_wp2
          go_roundw
          case measure => simp [intOf]; omega
          case rel =>
            have b4 := Hb4.out
            exact ⟨j + 1, Xo.step ⟨x0, x1, x2, x3⟩, by omega, by go_num, Lib.hid (by rw [Xo.it, hx.out]), (Boxes.cons (box4 ⟨by go_simp, by go_simp, by go_simp, by go_simp⟩ ⟨by go_simp, by go_simp, by go_simp, by go_simp⟩) (Boxes.cons (box4 ⟨by go_simp, by go_simp, by go_simp, by go_simp⟩ ⟨by go_simp, by go_simp, by go_simp, by go_simp⟩) (Boxes.nil _))), owns_apart (owns_below HU4.out hb5) (by (repeat' (first | (with_reducible exact World.grownBy.refl _ _) | (with_reducible assumption) | (with_reducible refine gb_alloc ?_ _) | (with_reducible refine gb_drew ?_) | (with_reducible refine gb_drewN ?_ _) | (with_reducible refine gb_set ?_ ?_ _) | (with_reducible refine gb_below ?_ (by assumption)) | (exact Or.inl rfl) | (refine Or.inr ?_) | go_size))) HP4.out.2.2.2.1, owns_apart (owns_below HV4.out hb5) (by (repeat' (first | (with_reducible exact World.grownBy.refl _ _) | (with_reducible assumption) | (with_reducible refine gb_alloc ?_ _) | (with_reducible refine gb_drew ?_) | (with_reducible refine gb_drewN ?_ _) | (with_reducible refine gb_set ?_ ?_ _) | (with_reducible refine gb_below ?_ (by assumption)) | (exact Or.inl rfl) | (refine Or.inr ?_) | go_size))) HP4.out.2.2.2.2, HP4.out, by simp; omega, by (repeat' (first | (with_reducible exact Below.refl _ _) | (with_reducible assumption) | (with_reducible refine Below.alloc ?_ ?_ _) | (with_reducible refine Below.drew ?_) | (with_reducible refine below_drewN ?_ _) | (with_reducible refine Below.setCell ?_ ?_ _) | (with_reducible refine Below.trans ?_ (Below.mono (by assumption) ?_)) | go_size))⟩
      · obtain rfl : n = j := by omega
        have hn3 := HN3.out
        clear HN3 HP
        have hn4 : (m < 0 ∧ n = 0) ∨ (2048 < m ∧ n = 0) ∨ (m = n ∧ 256 < n) ∨ (m = n ∧ n ≤ 256) := by omega
        clear hn3
        rcases hn4 with ⟨hm, hn0⟩ | ⟨hm, hn0⟩ | ⟨hm, hn0⟩ | ⟨hm, hn0⟩
        · skip
          have nm : ¬ (n : Int) < m := by omega
          have nm2 : m < 0 := by omega
          have nm3 : ¬ (0 : Int) ≤ m := by omega
          go_wp2_with fail
          refine (xwords_arg _ (by omega) _ _ _ _ HS0.out _).mono ?_
          rintro e w2 ⟨rfl, hb2⟩
          have hz2 := hb2.size
          have B2 := HB.out.below hb2
          have fcw2_s0 : w2.cell? ⟨w.heap.size, 0, none⟩ = some (.int .u64 s0.toNat) := (B2.head 0 _ rfl).1; have ffw2_s0 : w2.frozen? ⟨w.heap.size, 0, none⟩ = false := (B2.head 0 _ rfl).2; have fcw2_s1 : w2.cell? ⟨w.heap.size, 1, none⟩ = some (.int .u64 s1.toNat) := (B2.head 1 _ rfl).1; have ffw2_s1 : w2.frozen? ⟨w.heap.size, 1, none⟩ = false := (B2.head 1 _ rfl).2; have fcw2_s2 : w2.cell? ⟨w.heap.size, 2, none⟩ = some (.int .u64 s2.toNat) := (B2.head 2 _ rfl).1; have ffw2_s2 : w2.frozen? ⟨w.heap.size, 2, none⟩ = false := (B2.head 2 _ rfl).2; have fcw2_s3 : w2.cell? ⟨w.heap.size, 3, none⟩ = some (.int .u64 s3.toNat) := (B2.head 3 _ rfl).1; have ffw2_s3 : w2.frozen? ⟨w.heap.size, 3, none⟩ = false := (B2.head 3 _ rfl).2; have fcw2_y0 : w2.cell? ⟨wc.heap.size + 1 + 1, 0, none⟩ = some (.int .u64 x0.toNat) := (B2.tail.head 0 _ rfl).1; have ffw2_y0 : w2.frozen? ⟨wc.heap.size + 1 + 1, 0, none⟩ = false := (B2.tail.head 0 _ rfl).2; have fcw2_y1 : w2.cell? ⟨wc.heap.size + 1 + 1, 1, none⟩ = some (.int .u64 x1.toNat) := (B2.tail.head 1 _ rfl).1; have ffw2_y1 : w2.frozen? ⟨wc.heap.size + 1 + 1, 1, none⟩ = false := (B2.tail.head 1 _ rfl).2; have fcw2_y2 : w2.cell? ⟨wc.heap.size + 1 + 1, 2, none⟩ = some (.int .u64 x2.toNat) := (B2.tail.head 2 _ rfl).1; have ffw2_y2 : w2.frozen? ⟨wc.heap.size + 1 + 1, 2, none⟩ = false := (B2.tail.head 2 _ rfl).2; have fcw2_y3 : w2.cell? ⟨wc.heap.size + 1 + 1, 3, none⟩ = some (.int .u64 x3.toNat) := (B2.tail.head 3 _ rfl).1; have ffw2_y3 : w2.frozen? ⟨wc.heap.size + 1 + 1, 3, none⟩ = false := (B2.tail.head 3 _ rfl).2
          have HB2 := Lib.hid B2
          clear B2
          go_wp2_with fail
          refine (xbits_no m (by omega) _ _ _ _ _).mono ?_
          rintro e w3 ⟨rfl, hb3⟩
          have hz3 := hb3.size; (try simp at hz3)
          have kc3w_heap_size_0 : w3.cell? ⟨w.heap.size, 0, none⟩ = some (.int .u64 s0.toNat) := (hb3.cell (p := ⟨w.heap.size, 0, none⟩) (by first | omega | (simp; done) | (simp; omega))).trans (by go_simp); have kf3w_heap_size_0 : w3.frozen? ⟨w.heap.size, 0, none⟩ = false := (hb3.frozen (p := ⟨w.heap.size, 0, none⟩) (by first | omega | (simp; done) | (simp; omega))).trans (by go_simp); have kc3w_heap_size_1 : w3.cell? ⟨w.heap.size, 1, none⟩ = some (.int .u64 s1.toNat) := (hb3.cell (p := ⟨w.heap.size, 1, none⟩) (by first | omega | (simp; done) | (simp; omega))).trans (by go_simp); have kf3w_heap_size_1 : w3.frozen? ⟨w.heap.size, 1, none⟩ = false := (hb3.frozen (p := ⟨w.heap.size, 1, none⟩) (by first | omega | (simp; done) | (simp; omega))).trans (by go_simp); have kc3w_heap_size_2 : w3.cell? ⟨w.heap.size, 2, none⟩ = some (.int .u64 s2.toNat) := (hb3.cell (p := ⟨w.heap.size, 2, none⟩) (by first | omega | (simp; done) | (simp; omega))).trans (by go_simp); have kf3w_heap_size_2 : w3.frozen? ⟨w.heap.size, 2, none⟩ = false := (hb3.frozen (p := ⟨w.heap.size, 2, none⟩) (by first | omega | (simp; done) | (simp; omega))).trans (by go_simp); have kc3w_heap_size_3 : w3.cell? ⟨w.heap.size, 3, none⟩ = some (.int .u64 s3.toNat) := (hb3.cell (p := ⟨w.heap.size, 3, none⟩) (by first | omega | (simp; done) | (simp; omega))).trans (by go_simp); have kf3w_heap_size_3 : w3.frozen? ⟨w.heap.size, 3, none⟩ = false := (hb3.frozen (p := ⟨w.heap.size, 3, none⟩) (by first | omega | (simp; done) | (simp; omega))).trans (by go_simp)
          have kc3wc_heap_size___1___1_0 : w3.cell? ⟨wc.heap.size + 1 + 1, 0, none⟩ = some (.int .u64 x0.toNat) := (hb3.cell (p := ⟨wc.heap.size + 1 + 1, 0, none⟩) (by first | omega | (simp; done) | (simp; omega))).trans (by go_simp); have kf3wc_heap_size___1___1_0 : w3.frozen? ⟨wc.heap.size + 1 + 1, 0, none⟩ = false := (hb3.frozen (p := ⟨wc.heap.size + 1 + 1, 0, none⟩) (by first | omega | (simp; done) | (simp; omega))).trans (by go_simp); have kc3wc_heap_size___1___1_1 : w3.cell? ⟨wc.heap.size + 1 + 1, 1, none⟩ = some (.int .u64 x1.toNat) := (hb3.cell (p := ⟨wc.heap.size + 1 + 1, 1, none⟩) (by first | omega | (simp; done) | (simp; omega))).trans (by go_simp); have kf3wc_heap_size___1___1_1 : w3.frozen? ⟨wc.heap.size + 1 + 1, 1, none⟩ = false := (hb3.frozen (p := ⟨wc.heap.size + 1 + 1, 1, none⟩) (by first | omega | (simp; done) | (simp; omega))).trans (by go_simp); have kc3wc_heap_size___1___1_2 : w3.cell? ⟨wc.heap.size + 1 + 1, 2, none⟩ = some (.int .u64 x2.toNat) := (hb3.cell (p := ⟨wc.heap.size + 1 + 1, 2, none⟩) (by first | omega | (simp; done) | (simp; omega))).trans (by go_simp); have kf3wc_heap_size___1___1_2 : w3.frozen? ⟨wc.heap.size + 1 + 1, 2, none⟩ = false := (hb3.frozen (p := ⟨wc.heap.size + 1 + 1, 2, none⟩) (by first | omega | (simp; done) | (simp; omega))).trans (by go_simp); have kc3wc_heap_size___1___1_3 : w3.cell? ⟨wc.heap.size + 1 + 1, 3, none⟩ = some (.int .u64 x3.toNat) := (hb3.cell (p := ⟨wc.heap.size + 1 + 1, 3, none⟩) (by first | omega | (simp; done) | (simp; omega))).trans (by go_simp); have kf3wc_heap_size___1___1_3 : w3.frozen? ⟨wc.heap.size + 1 + 1, 3, none⟩ = false := (hb3.frozen (p := ⟨wc.heap.size + 1 + 1, 3, none⟩) (by first | omega | (simp; done) | (simp; omega))).trans (by go_simp)
          have kc3w2_heap_size_0 : w3.cell? ⟨w2.heap.size, 0, none⟩ = some (.int .u64 0) := (hb3.cell (p := ⟨w2.heap.size, 0, none⟩) (by first | omega | (simp; done) | (simp; omega))).trans (by go_simp); have kf3w2_heap_size_0 : w3.frozen? ⟨w2.heap.size, 0, none⟩ = false := (hb3.frozen (p := ⟨w2.heap.size, 0, none⟩) (by first | omega | (simp; done) | (simp; omega))).trans (by go_simp); have kc3w2_heap_size_1 : w3.cell? ⟨w2.heap.size, 1, none⟩ = some (.int .u64 0) := (hb3.cell (p := ⟨w2.heap.size, 1, none⟩) (by first | omega | (simp; done) | (simp; omega))).trans (by go_simp); have kf3w2_heap_size_1 : w3.frozen? ⟨w2.heap.size, 1, none⟩ = false := (hb3.frozen (p := ⟨w2.heap.size, 1, none⟩) (by first | omega | (simp; done) | (simp; omega))).trans (by go_simp); have kc3w2_heap_size_2 : w3.cell? ⟨w2.heap.size, 2, none⟩ = some (.int .u64 0) := (hb3.cell (p := ⟨w2.heap.size, 2, none⟩) (by first | omega | (simp; done) | (simp; omega))).trans (by go_simp); have kf3w2_heap_size_2 : w3.frozen? ⟨w2.heap.size, 2, none⟩ = false := (hb3.frozen (p := ⟨w2.heap.size, 2, none⟩) (by first | omega | (simp; done) | (simp; omega))).trans (by go_simp); have kc3w2_heap_size_3 : w3.cell? ⟨w2.heap.size, 3, none⟩ = some (.int .u64 0) := (hb3.cell (p := ⟨w2.heap.size, 3, none⟩) (by first | omega | (simp; done) | (simp; omega))).trans (by go_simp); have kf3w2_heap_size_3 : w3.frozen? ⟨w2.heap.size, 3, none⟩ = false := (hb3.frozen (p := ⟨w2.heap.size, 3, none⟩) (by first | omega | (simp; done) | (simp; omega))).trans (by go_simp)
          go_wp2_with fail
          refine (D5.out _).mono ?_
          rintro e w5 ⟨rfl, hb5⟩
          have hz5 := hb5.size; (try simp at hz5)
          have kc5wc_heap_size___1___1_0 : w5.cell? ⟨wc.heap.size + 1 + 1, 0, none⟩ = some (.int .u64 x0.toNat) := (hb5.cell (p := ⟨wc.heap.size + 1 + 1, 0, none⟩) (by first | omega | (simp; done) | (simp; omega))).trans (by go_simp); have kf5wc_heap_size___1___1_0 : w5.frozen? ⟨wc.heap.size + 1 + 1, 0, none⟩ = false := (hb5.frozen (p := ⟨wc.heap.size + 1 + 1, 0, none⟩) (by first | omega | (simp; done) | (simp; omega))).trans (by go_simp); have kc5wc_heap_size___1___1_1 : w5.cell? ⟨wc.heap.size + 1 + 1, 1, none⟩ = some (.int .u64 x1.toNat) := (hb5.cell (p := ⟨wc.heap.size + 1 + 1, 1, none⟩) (by first | omega | (simp; done) | (simp; omega))).trans (by go_simp); have kf5wc_heap_size___1___1_1 : w5.frozen? ⟨wc.heap.size + 1 + 1, 1, none⟩ = false := (hb5.frozen (p := ⟨wc.heap.size + 1 + 1, 1, none⟩) (by first | omega | (simp; done) | (simp; omega))).trans (by go_simp); have kc5wc_heap_size___1___1_2 : w5.cell? ⟨wc.heap.size + 1 + 1, 2, none⟩ = some (.int .u64 x2.toNat) := (hb5.cell (p := ⟨wc.heap.size + 1 + 1, 2, none⟩) (by first | omega | (simp; done) | (simp; omega))).trans (by go_simp); have kf5wc_heap_size___1___1_2 : w5.frozen? ⟨wc.heap.size + 1 + 1, 2, none⟩ = false := (hb5.frozen (p := ⟨wc.heap.size + 1 + 1, 2, none⟩) (by first | omega | (simp; done) | (simp; omega))).trans (by go_simp); have kc5wc_heap_size___1___1_3 : w5.cell? ⟨wc.heap.size + 1 + 1, 3, none⟩ = some (.int .u64 x3.toNat) := (hb5.cell (p := ⟨wc.heap.size + 1 + 1, 3, none⟩) (by first | omega | (simp; done) | (simp; omega))).trans (by go_simp); have kf5wc_heap_size___1___1_3 : w5.frozen? ⟨wc.heap.size + 1 + 1, 3, none⟩ = false := (hb5.frozen (p := ⟨wc.heap.size + 1 + 1, 3, none⟩) (by first | omega | (simp; done) | (simp; omega))).trans (by go_simp)
          have kc5w2_heap_size_0 : w5.cell? ⟨w2.heap.size, 0, none⟩ = some (.int .u64 0) := (hb5.cell (p := ⟨w2.heap.size, 0, none⟩) (by first | omega | (simp; done) | (simp; omega))).trans (by go_simp); have kf5w2_heap_size_0 : w5.frozen? ⟨w2.heap.size, 0, none⟩ = false := (hb5.frozen (p := ⟨w2.heap.size, 0, none⟩) (by first | omega | (simp; done) | (simp; omega))).trans (by go_simp); have kc5w2_heap_size_1 : w5.cell? ⟨w2.heap.size, 1, none⟩ = some (.int .u64 0) := (hb5.cell (p := ⟨w2.heap.size, 1, none⟩) (by first | omega | (simp; done) | (simp; omega))).trans (by go_simp); have kf5w2_heap_size_1 : w5.frozen? ⟨w2.heap.size, 1, none⟩ = false := (hb5.frozen (p := ⟨w2.heap.size, 1, none⟩) (by first | omega | (simp; done) | (simp; omega))).trans (by go_simp); have kc5w2_heap_size_2 : w5.cell? ⟨w2.heap.size, 2, none⟩ = some (.int .u64 0) := (hb5.cell (p := ⟨w2.heap.size, 2, none⟩) (by first | omega | (simp; done) | (simp; omega))).trans (by go_simp); have kf5w2_heap_size_2 : w5.frozen? ⟨w2.heap.size, 2, none⟩ = false := (hb5.frozen (p := ⟨w2.heap.size, 2, none⟩) (by first | omega | (simp; done) | (simp; omega))).trans (by go_simp); have kc5w2_heap_size_3 : w5.cell? ⟨w2.heap.size, 3, none⟩ = some (.int .u64 0) := (hb5.cell (p := ⟨w2.heap.size, 3, none⟩) (by first | omega | (simp; done) | (simp; omega))).trans (by go_simp); have kf5w2_heap_size_3 : w5.frozen? ⟨w2.heap.size, 3, none⟩ = false := (hb5.frozen (p := ⟨w2.heap.size, 3, none⟩) (by first | omega | (simp; done) | (simp; omega))).trans (by go_simp)
          go_wp2
          go_ret
          exact ⟨rfl, by (repeat' (first | (with_reducible exact Below.refl _ _) | (with_reducible assumption) | (with_reducible refine Below.alloc ?_ ?_ _) | (with_reducible refine Below.drew ?_) | (with_reducible refine below_drewN ?_ _) | (with_reducible refine Below.setCell ?_ ?_ _) | (with_reducible refine Below.trans ?_ (Below.mono (by assumption) ?_)) | go_size))⟩
        · skip
          have nm : (n : Int) < m := by omega
          have nm2 : ¬ m ≤ 2048 := by omega
          have nm3 : (2048 : Int) < m := by omega
          have nm4 : ¬ m < 0 := by omega
          have nm5 : (0 : Int) ≤ m := by omega
          have nm6 : (256 : Int) < m := by omega
          go_wp2_with fail
          refine (xwords_arg _ (by omega) _ _ _ _ HS0.out _).mono ?_
          rintro e w2 ⟨rfl, hb2⟩
          have hz2 := hb2.size
          have B2 := HB.out.below hb2
          have fcw2_s0 : w2.cell? ⟨w.heap.size, 0, none⟩ = some (.int .u64 s0.toNat) := (B2.head 0 _ rfl).1; have ffw2_s0 : w2.frozen? ⟨w.heap.size, 0, none⟩ = false := (B2.head 0 _ rfl).2; have fcw2_s1 : w2.cell? ⟨w.heap.size, 1, none⟩ = some (.int .u64 s1.toNat) := (B2.head 1 _ rfl).1; have ffw2_s1 : w2.frozen? ⟨w.heap.size, 1, none⟩ = false := (B2.head 1 _ rfl).2; have fcw2_s2 : w2.cell? ⟨w.heap.size, 2, none⟩ = some (.int .u64 s2.toNat) := (B2.head 2 _ rfl).1; have ffw2_s2 : w2.frozen? ⟨w.heap.size, 2, none⟩ = false := (B2.head 2 _ rfl).2; have fcw2_s3 : w2.cell? ⟨w.heap.size, 3, none⟩ = some (.int .u64 s3.toNat) := (B2.head 3 _ rfl).1; have ffw2_s3 : w2.frozen? ⟨w.heap.size, 3, none⟩ = false := (B2.head 3 _ rfl).2; have fcw2_y0 : w2.cell? ⟨wc.heap.size + 1 + 1, 0, none⟩ = some (.int .u64 x0.toNat) := (B2.tail.head 0 _ rfl).1; have ffw2_y0 : w2.frozen? ⟨wc.heap.size + 1 + 1, 0, none⟩ = false := (B2.tail.head 0 _ rfl).2; have fcw2_y1 : w2.cell? ⟨wc.heap.size + 1 + 1, 1, none⟩ = some (.int .u64 x1.toNat) := (B2.tail.head 1 _ rfl).1; have ffw2_y1 : w2.frozen? ⟨wc.heap.size + 1 + 1, 1, none⟩ = false := (B2.tail.head 1 _ rfl).2; have fcw2_y2 : w2.cell? ⟨wc.heap.size + 1 + 1, 2, none⟩ = some (.int .u64 x2.toNat) := (B2.tail.head 2 _ rfl).1; have ffw2_y2 : w2.frozen? ⟨wc.heap.size + 1 + 1, 2, none⟩ = false := (B2.tail.head 2 _ rfl).2; have fcw2_y3 : w2.cell? ⟨wc.heap.size + 1 + 1, 3, none⟩ = some (.int .u64 x3.toNat) := (B2.tail.head 3 _ rfl).1; have ffw2_y3 : w2.frozen? ⟨wc.heap.size + 1 + 1, 3, none⟩ = false := (B2.tail.head 3 _ rfl).2
          have HB2 := Lib.hid B2
          clear B2
          go_wp2_with fail
          refine (xbits_no m (by omega) _ _ _ _ _).mono ?_
          rintro e w3 ⟨rfl, hb3⟩
          have hz3 := hb3.size; (try simp at hz3)
          have kc3w_heap_size_0 : w3.cell? ⟨w.heap.size, 0, none⟩ = some (.int .u64 s0.toNat) := (hb3.cell (p := ⟨w.heap.size, 0, none⟩) (by first | omega | (simp; done) | (simp; omega))).trans (by go_simp); have kf3w_heap_size_0 : w3.frozen? ⟨w.heap.size, 0, none⟩ = false := (hb3.frozen (p := ⟨w.heap.size, 0, none⟩) (by first | omega | (simp; done) | (simp; omega))).trans (by go_simp); have kc3w_heap_size_1 : w3.cell? ⟨w.heap.size, 1, none⟩ = some (.int .u64 s1.toNat) := (hb3.cell (p := ⟨w.heap.size, 1, none⟩) (by first | omega | (simp; done) | (simp; omega))).trans (by go_simp); have kf3w_heap_size_1 : w3.frozen? ⟨w.heap.size, 1, none⟩ = false := (hb3.frozen (p := ⟨w.heap.size, 1, none⟩) (by first | omega | (simp; done) | (simp; omega))).trans (by go_simp); have kc3w_heap_size_2 : w3.cell? ⟨w.heap.size, 2, none⟩ = some (.int .u64 s2.toNat) := (hb3.cell (p := ⟨w.heap.size, 2, none⟩) (by first | omega | (simp; done) | (simp; omega))).trans (by go_simp); have kf3w_heap_size_2 : w3.frozen? ⟨w.heap.size, 2, none⟩ = false := (hb3.frozen (p := ⟨w.heap.size, 2, none⟩) (by first | omega | (simp; done) | (simp; omega))).trans (by go_simp); have kc3w_heap_size_3 : w3.cell? ⟨w.heap.size, 3, none⟩ = some (.int .u64 s3.toNat) := (hb3.cell (p := ⟨w.heap.size, 3, none⟩) (by first | omega | (simp; done) | (simp; omega))).trans (by go_simp); have kf3w_heap_size_3 : w3.frozen? ⟨w.heap.size, 3, none⟩ = false := (hb3.frozen (p := ⟨w.heap.size, 3, none⟩) (by first | omega | (simp; done) | (simp; omega))).trans (by go_simp)
          have kc3wc_heap_size___1___1_0 : w3.cell? ⟨wc.heap.size + 1 + 1, 0, none⟩ = some (.int .u64 x0.toNat) := (hb3.cell (p := ⟨wc.heap.size + 1 + 1, 0, none⟩) (by first | omega | (simp; done) | (simp; omega))).trans (by go_simp); have kf3wc_heap_size___1___1_0 : w3.frozen? ⟨wc.heap.size + 1 + 1, 0, none⟩ = false := (hb3.frozen (p := ⟨wc.heap.size + 1 + 1, 0, none⟩) (by first | omega | (simp; done) | (simp; omega))).trans (by go_simp); have kc3wc_heap_size___1___1_1 : w3.cell? ⟨wc.heap.size + 1 + 1, 1, none⟩ = some (.int .u64 x1.toNat) := (hb3.cell (p := ⟨wc.heap.size + 1 + 1, 1, none⟩) (by first | omega | (simp; done) | (simp; omega))).trans (by go_simp); have kf3wc_heap_size___1___1_1 : w3.frozen? ⟨wc.heap.size + 1 + 1, 1, none⟩ = false := (hb3.frozen (p := ⟨wc.heap.size + 1 + 1, 1, none⟩) (by first | omega | (simp; done) | (simp; omega))).trans (by go_simp); have kc3wc_heap_size___1___1_2 : w3.cell? ⟨wc.heap.size + 1 + 1, 2, none⟩ = some (.int .u64 x2.toNat) := (hb3.cell (p := ⟨wc.heap.size + 1 + 1, 2, none⟩) (by first | omega | (simp; done) | (simp; omega))).trans (by go_simp); have kf3wc_heap_size___1___1_2 : w3.frozen? ⟨wc.heap.size + 1 + 1, 2, none⟩ = false := (hb3.frozen (p := ⟨wc.heap.size + 1 + 1, 2, none⟩) (by first | omega | (simp; done) | (simp; omega))).trans (by go_simp); have kc3wc_heap_size___1___1_3 : w3.cell? ⟨wc.heap.size + 1 + 1, 3, none⟩ = some (.int .u64 x3.toNat) := (hb3.cell (p := ⟨wc.heap.size + 1 + 1, 3, none⟩) (by first | omega | (simp; done) | (simp; omega))).trans (by go_simp); have kf3wc_heap_size___1___1_3 : w3.frozen? ⟨wc.heap.size + 1 + 1, 3, none⟩ = false := (hb3.frozen (p := ⟨wc.heap.size + 1 + 1, 3, none⟩) (by first | omega | (simp; done) | (simp; omega))).trans (by go_simp)
          have kc3w2_heap_size_0 : w3.cell? ⟨w2.heap.size, 0, none⟩ = some (.int .u64 0) := (hb3.cell (p := ⟨w2.heap.size, 0, none⟩) (by first | omega | (simp; done) | (simp; omega))).trans (by go_simp); have kf3w2_heap_size_0 : w3.frozen? ⟨w2.heap.size, 0, none⟩ = false := (hb3.frozen (p := ⟨w2.heap.size, 0, none⟩) (by first | omega | (simp; done) | (simp; omega))).trans (by go_simp); have kc3w2_heap_size_1 : w3.cell? ⟨w2.heap.size, 1, none⟩ = some (.int .u64 0) := (hb3.cell (p := ⟨w2.heap.size, 1, none⟩) (by first | omega | (simp; done) | (simp; omega))).trans (by go_simp); have kf3w2_heap_size_1 : w3.frozen? ⟨w2.heap.size, 1, none⟩ = false := (hb3.frozen (p := ⟨w2.heap.size, 1, none⟩) (by first | omega | (simp; done) | (simp; omega))).trans (by go_simp); have kc3w2_heap_size_2 : w3.cell? ⟨w2.heap.size, 2, none⟩ = some (.int .u64 0) := (hb3.cell (p := ⟨w2.heap.size, 2, none⟩) (by first | omega | (simp; done) | (simp; omega))).trans (by go_simp); have kf3w2_heap_size_2 : w3.frozen? ⟨w2.heap.size, 2, none⟩ = false := (hb3.frozen (p := ⟨w2.heap.size, 2, none⟩) (by first | omega | (simp; done) | (simp; omega))).trans (by go_simp); have kc3w2_heap_size_3 : w3.cell? ⟨w2.heap.size, 3, none⟩ = some (.int .u64 0) := (hb3.cell (p := ⟨w2.heap.size, 3, none⟩) (by first | omega | (simp; done) | (simp; omega))).trans (by go_simp); have kf3w2_heap_size_3 : w3.frozen? ⟨w2.heap.size, 3, none⟩ = false := (hb3.frozen (p := ⟨w2.heap.size, 3, none⟩) (by first | omega | (simp; done) | (simp; omega))).trans (by go_simp)
          go_wp2_with fail
          refine (D5.out _).mono ?_
          rintro e w5 ⟨rfl, hb5⟩
          have hz5 := hb5.size; (try simp at hz5)
          have kc5wc_heap_size___1___1_0 : w5.cell? ⟨wc.heap.size + 1 + 1, 0, none⟩ = some (.int .u64 x0.toNat) := (hb5.cell (p := ⟨wc.heap.size + 1 + 1, 0, none⟩) (by first | omega | (simp; done) | (simp; omega))).trans (by go_simp); have kf5wc_heap_size___1___1_0 : w5.frozen? ⟨wc.heap.size + 1 + 1, 0, none⟩ = false := (hb5.frozen (p := ⟨wc.heap.size + 1 + 1, 0, none⟩) (by first | omega | (simp; done) | (simp; omega))).trans (by go_simp); have kc5wc_heap_size___1___1_1 : w5.cell? ⟨wc.heap.size + 1 + 1, 1, none⟩ = some (.int .u64 x1.toNat) := (hb5.cell (p := ⟨wc.heap.size + 1 + 1, 1, none⟩) (by first | omega | (simp; done) | (simp; omega))).trans (by go_simp); have kf5wc_heap_size___1___1_1 : w5.frozen? ⟨wc.heap.size + 1 + 1, 1, none⟩ = false := (hb5.frozen (p := ⟨wc.heap.size + 1 + 1, 1, none⟩) (by first | omega | (simp; done) | (simp; omega))).trans (by go_simp); have kc5wc_heap_size___1___1_2 : w5.cell? ⟨wc.heap.size + 1 + 1, 2, none⟩ = some (.int .u64 x2.toNat) := (hb5.cell (p := ⟨wc.heap.size + 1 + 1, 2, none⟩) (by first | omega | (simp; done) | (simp; omega))).trans (by go_simp); have kf5wc_heap_size___1___1_2 : w5.frozen? ⟨wc.heap.size + 1 + 1, 2, none⟩ = false := (hb5.frozen (p := ⟨wc.heap.size + 1 + 1, 2, none⟩) (by first | omega | (simp; done) | (simp; omega))).trans (by go_simp); have kc5wc_heap_size___1___1_3 : w5.cell? ⟨wc.heap.size + 1 + 1, 3, none⟩ = some (.int .u64 x3.toNat) := (hb5.cell (p := ⟨wc.heap.size + 1 + 1, 3, none⟩) (by first | omega | (simp; done) | (simp; omega))).trans (by go_simp); have kf5wc_heap_size___1___1_3 : w5.frozen? ⟨wc.heap.size + 1 + 1, 3, none⟩ = false := (hb5.frozen (p := ⟨wc.heap.size + 1 + 1, 3, none⟩) (by first | omega | (simp; done) | (simp; omega))).trans (by go_simp)
          have kc5w2_heap_size_0 : w5.cell? ⟨w2.heap.size, 0, none⟩ = some (.int .u64 0) := (hb5.cell (p := ⟨w2.heap.size, 0, none⟩) (by first | omega | (simp; done) | (simp; omega))).trans (by go_simp); have kf5w2_heap_size_0 : w5.frozen? ⟨w2.heap.size, 0, none⟩ = false := (hb5.frozen (p := ⟨w2.heap.size, 0, none⟩) (by first | omega | (simp; done) | (simp; omega))).trans (by go_simp); have kc5w2_heap_size_1 : w5.cell? ⟨w2.heap.size, 1, none⟩ = some (.int .u64 0) := (hb5.cell (p := ⟨w2.heap.size, 1, none⟩) (by first | omega | (simp; done) | (simp; omega))).trans (by go_simp); have kf5w2_heap_size_1 : w5.frozen? ⟨w2.heap.size, 1, none⟩ = false := (hb5.frozen (p := ⟨w2.heap.size, 1, none⟩) (by first | omega | (simp; done) | (simp; omega))).trans (by go_simp); have kc5w2_heap_size_2 : w5.cell? ⟨w2.heap.size, 2, none⟩ = some (.int .u64 0) := (hb5.cell (p := ⟨w2.heap.size, 2, none⟩) (by first | omega | (simp; done) | (simp; omega))).trans (by go_simp); have kf5w2_heap_size_2 : w5.frozen? ⟨w2.heap.size, 2, none⟩ = false := (hb5.frozen (p := ⟨w2.heap.size, 2, none⟩) (by first | omega | (simp; done) | (simp; omega))).trans (by go_simp); have kc5w2_heap_size_3 : w5.cell? ⟨w2.heap.size, 3, none⟩ = some (.int .u64 0) := (hb5.cell (p := ⟨w2.heap.size, 3, none⟩) (by first | omega | (simp; done) | (simp; omega))).trans (by go_simp); have kf5w2_heap_size_3 : w5.frozen? ⟨w2.heap.size, 3, none⟩ = false := (hb5.frozen (p := ⟨w2.heap.size, 3, none⟩) (by first | omega | (simp; done) | (simp; omega))).trans (by go_simp)
          go_wp2
          go_ret
          exact ⟨rfl, by (repeat' (first | (with_reducible exact Below.refl _ _) | (with_reducible assumption) | (with_reducible refine Below.alloc ?_ ?_ _) | (with_reducible refine Below.drew ?_) | (with_reducible refine below_drewN ?_ _) | (with_reducible refine Below.setCell ?_ ?_ _) | (with_reducible refine Below.trans ?_ (Below.mono (by assumption) ?_)) | go_size))⟩
        · skip
          obtain rfl : m = (n : Int) := by omega
          have nm : ¬ (n : Int) < 0 := by omega
          have nm2 : (0 : Int) ≤ n := by omega
          have nm3 : (n : Int) ≤ 2048 := by omega
          have nm4 : ¬ (2048 : Int) < n := by omega
          have nm5 : (256 : Int) < n := by omega
          go_wp2_with fail
          refine (xwords_arg _ (by omega) _ _ _ _ HS0.out _).mono ?_
          rintro e w2 ⟨rfl, hb2⟩
          have hz2 := hb2.size
          have B2 := HB.out.below hb2
          have fcw2_s0 : w2.cell? ⟨w.heap.size, 0, none⟩ = some (.int .u64 s0.toNat) := (B2.head 0 _ rfl).1; have ffw2_s0 : w2.frozen? ⟨w.heap.size, 0, none⟩ = false := (B2.head 0 _ rfl).2; have fcw2_s1 : w2.cell? ⟨w.heap.size, 1, none⟩ = some (.int .u64 s1.toNat) := (B2.head 1 _ rfl).1; have ffw2_s1 : w2.frozen? ⟨w.heap.size, 1, none⟩ = false := (B2.head 1 _ rfl).2; have fcw2_s2 : w2.cell? ⟨w.heap.size, 2, none⟩ = some (.int .u64 s2.toNat) := (B2.head 2 _ rfl).1; have ffw2_s2 : w2.frozen? ⟨w.heap.size, 2, none⟩ = false := (B2.head 2 _ rfl).2; have fcw2_s3 : w2.cell? ⟨w.heap.size, 3, none⟩ = some (.int .u64 s3.toNat) := (B2.head 3 _ rfl).1; have ffw2_s3 : w2.frozen? ⟨w.heap.size, 3, none⟩ = false := (B2.head 3 _ rfl).2; have fcw2_y0 : w2.cell? ⟨wc.heap.size + 1 + 1, 0, none⟩ = some (.int .u64 x0.toNat) := (B2.tail.head 0 _ rfl).1; have ffw2_y0 : w2.frozen? ⟨wc.heap.size + 1 + 1, 0, none⟩ = false := (B2.tail.head 0 _ rfl).2; have fcw2_y1 : w2.cell? ⟨wc.heap.size + 1 + 1, 1, none⟩ = some (.int .u64 x1.toNat) := (B2.tail.head 1 _ rfl).1; have ffw2_y1 : w2.frozen? ⟨wc.heap.size + 1 + 1, 1, none⟩ = false := (B2.tail.head 1 _ rfl).2; have fcw2_y2 : w2.cell? ⟨wc.heap.size + 1 + 1, 2, none⟩ = some (.int .u64 x2.toNat) := (B2.tail.head 2 _ rfl).1; have ffw2_y2 : w2.frozen? ⟨wc.heap.size + 1 + 1, 2, none⟩ = false := (B2.tail.head 2 _ rfl).2; have fcw2_y3 : w2.cell? ⟨wc.heap.size + 1 + 1, 3, none⟩ = some (.int .u64 x3.toNat) := (B2.tail.head 3 _ rfl).1; have ffw2_y3 : w2.frozen? ⟨wc.heap.size + 1 + 1, 3, none⟩ = false := (B2.tail.head 3 _ rfl).2
          have HB2 := Lib.hid B2
          clear B2
          go_wp2_with fail
          refine (xbits_ok n (by omega) _ _ _ _ _).mono ?_
          rintro e w3 ⟨vq, rfl, hoq, hb3⟩
          have HOQ := Lib.hid hoq
          clear hoq
          have hz3 := hb3.size; (try simp at hz3)
          have kc3w_heap_size_0 : w3.cell? ⟨w.heap.size, 0, none⟩ = some (.int .u64 s0.toNat) := (hb3.cell (p := ⟨w.heap.size, 0, none⟩) (by first | omega | (simp; done) | (simp; omega))).trans (by go_simp); have kf3w_heap_size_0 : w3.frozen? ⟨w.heap.size, 0, none⟩ = false := (hb3.frozen (p := ⟨w.heap.size, 0, none⟩) (by first | omega | (simp; done) | (simp; omega))).trans (by go_simp); have kc3w_heap_size_1 : w3.cell? ⟨w.heap.size, 1, none⟩ = some (.int .u64 s1.toNat) := (hb3.cell (p := ⟨w.heap.size, 1, none⟩) (by first | omega | (simp; done) | (simp; omega))).trans (by go_simp); have kf3w_heap_size_1 : w3.frozen? ⟨w.heap.size, 1, none⟩ = false := (hb3.frozen (p := ⟨w.heap.size, 1, none⟩) (by first | omega | (simp; done) | (simp; omega))).trans (by go_simp); have kc3w_heap_size_2 : w3.cell? ⟨w.heap.size, 2, none⟩ = some (.int .u64 s2.toNat) := (hb3.cell (p := ⟨w.heap.size, 2, none⟩) (by first | omega | (simp; done) | (simp; omega))).trans (by go_simp); have kf3w_heap_size_2 : w3.frozen? ⟨w.heap.size, 2, none⟩ = false := (hb3.frozen (p := ⟨w.heap.size, 2, none⟩) (by first | omega | (simp; done) | (simp; omega))).trans (by go_simp); have kc3w_heap_size_3 : w3.cell? ⟨w.heap.size, 3, none⟩ = some (.int .u64 s3.toNat) := (hb3.cell (p := ⟨w.heap.size, 3, none⟩) (by first | omega | (simp; done) | (simp; omega))).trans (by go_simp); have kf3w_heap_size_3 : w3.frozen? ⟨w.heap.size, 3, none⟩ = false := (hb3.frozen (p := ⟨w.heap.size, 3, none⟩) (by first | omega | (simp; done) | (simp; omega))).trans (by go_simp)
          have kc3wc_heap_size___1___1_0 : w3.cell? ⟨wc.heap.size + 1 + 1, 0, none⟩ = some (.int .u64 x0.toNat) := (hb3.cell (p := ⟨wc.heap.size + 1 + 1, 0, none⟩) (by first | omega | (simp; done) | (simp; omega))).trans (by go_simp); have kf3wc_heap_size___1___1_0 : w3.frozen? ⟨wc.heap.size + 1 + 1, 0, none⟩ = false := (hb3.frozen (p := ⟨wc.heap.size + 1 + 1, 0, none⟩) (by first | omega | (simp; done) | (simp; omega))).trans (by go_simp); have kc3wc_heap_size___1___1_1 : w3.cell? ⟨wc.heap.size + 1 + 1, 1, none⟩ = some (.int .u64 x1.toNat) := (hb3.cell (p := ⟨wc.heap.size + 1 + 1, 1, none⟩) (by first | omega | (simp; done) | (simp; omega))).trans (by go_simp); have kf3wc_heap_size___1___1_1 : w3.frozen? ⟨wc.heap.size + 1 + 1, 1, none⟩ = false := (hb3.frozen (p := ⟨wc.heap.size + 1 + 1, 1, none⟩) (by first | omega | (simp; done) | (simp; omega))).trans (by go_simp); have kc3wc_heap_size___1___1_2 : w3.cell? ⟨wc.heap.size + 1 + 1, 2, none⟩ = some (.int .u64 x2.toNat) := (hb3.cell (p := ⟨wc.heap.size + 1 + 1, 2, none⟩) (by first | omega | (simp; done) | (simp; omega))).trans (by go_simp); have kf3wc_heap_size___1___1_2 : w3.frozen? ⟨wc.heap.size + 1 + 1, 2, none⟩ = false := (hb3.frozen (p := ⟨wc.heap.size + 1 + 1, 2, none⟩) (by first | omega | (simp; done) | (simp; omega))).trans (by go_simp); have kc3wc_heap_size___1___1_3 : w3.cell? ⟨wc.heap.size + 1 + 1, 3, none⟩ = some (.int .u64 x3.toNat) := (hb3.cell (p := ⟨wc.heap.size + 1 + 1, 3, none⟩) (by first | omega | (simp; done) | (simp; omega))).trans (by go_simp); have kf3wc_heap_size___1___1_3 : w3.frozen? ⟨wc.heap.size + 1 + 1, 3, none⟩ = false := (hb3.frozen (p := ⟨wc.heap.size + 1 + 1, 3, none⟩) (by first | omega | (simp; done) | (simp; omega))).trans (by go_simp)
          have kc3w2_heap_size_0 : w3.cell? ⟨w2.heap.size, 0, none⟩ = some (.int .u64 0) := (hb3.cell (p := ⟨w2.heap.size, 0, none⟩) (by first | omega | (simp; done) | (simp; omega))).trans (by go_simp); have kf3w2_heap_size_0 : w3.frozen? ⟨w2.heap.size, 0, none⟩ = false := (hb3.frozen (p := ⟨w2.heap.size, 0, none⟩) (by first | omega | (simp; done) | (simp; omega))).trans (by go_simp); have kc3w2_heap_size_1 : w3.cell? ⟨w2.heap.size, 1, none⟩ = some (.int .u64 0) := (hb3.cell (p := ⟨w2.heap.size, 1, none⟩) (by first | omega | (simp; done) | (simp; omega))).trans (by go_simp); have kf3w2_heap_size_1 : w3.frozen? ⟨w2.heap.size, 1, none⟩ = false := (hb3.frozen (p := ⟨w2.heap.size, 1, none⟩) (by first | omega | (simp; done) | (simp; omega))).trans (by go_simp); have kc3w2_heap_size_2 : w3.cell? ⟨w2.heap.size, 2, none⟩ = some (.int .u64 0) := (hb3.cell (p := ⟨w2.heap.size, 2, none⟩) (by first | omega | (simp; done) | (simp; omega))).trans (by go_simp); have kf3w2_heap_size_2 : w3.frozen? ⟨w2.heap.size, 2, none⟩ = false := (hb3.frozen (p := ⟨w2.heap.size, 2, none⟩) (by first | omega | (simp; done) | (simp; omega))).trans (by go_simp); have kc3w2_heap_size_3 : w3.cell? ⟨w2.heap.size, 3, none⟩ = some (.int .u64 0) := (hb3.cell (p := ⟨w2.heap.size, 3, none⟩) (by first | omega | (simp; done) | (simp; omega))).trans (by go_simp); have kf3w2_heap_size_3 : w3.frozen? ⟨w2.heap.size, 3, none⟩ = false := (hb3.frozen (p := ⟨w2.heap.size, 3, none⟩) (by first | omega | (simp; done) | (simp; omega))).trans (by go_simp)
          go_wp2_with fail
          refine (same_same (Xo.bitsL n ⟨s0, s1, s2, s3⟩) (by rw [Xo.bits_length]; omega) vq u6 _ wc.heap.size _ (by rw [Xo.bits_length]; exact HOQ.out) (by rw [Xo.bits_length]; exact owns_below ((owns_below HV.out hb2).alloc _) hb3)).mono ?_
          rintro e w4 ⟨rfl, hb4⟩
          have hz4 := hb4.size; (try simp at hz4)
          have kc4w_heap_size_0 : w4.cell? ⟨w.heap.size, 0, none⟩ = some (.int .u64 s0.toNat) := (hb4.cell (p := ⟨w.heap.size, 0, none⟩) (by first | omega | (simp; done) | (simp; omega))).trans (by go_simp); have kf4w_heap_size_0 : w4.frozen? ⟨w.heap.size, 0, none⟩ = false := (hb4.frozen (p := ⟨w.heap.size, 0, none⟩) (by first | omega | (simp; done) | (simp; omega))).trans (by go_simp); have kc4w_heap_size_1 : w4.cell? ⟨w.heap.size, 1, none⟩ = some (.int .u64 s1.toNat) := (hb4.cell (p := ⟨w.heap.size, 1, none⟩) (by first | omega | (simp; done) | (simp; omega))).trans (by go_simp); have kf4w_heap_size_1 : w4.frozen? ⟨w.heap.size, 1, none⟩ = false := (hb4.frozen (p := ⟨w.heap.size, 1, none⟩) (by first | omega | (simp; done) | (simp; omega))).trans (by go_simp); have kc4w_heap_size_2 : w4.cell? ⟨w.heap.size, 2, none⟩ = some (.int .u64 s2.toNat) := (hb4.cell (p := ⟨w.heap.size, 2, none⟩) (by first | omega | (simp; done) | (simp; omega))).trans (by go_simp); have kf4w_heap_size_2 : w4.frozen? ⟨w.heap.size, 2, none⟩ = false := (hb4.frozen (p := ⟨w.heap.size, 2, none⟩) (by first | omega | (simp; done) | (simp; omega))).trans (by go_simp); have kc4w_heap_size_3 : w4.cell? ⟨w.heap.size, 3, none⟩ = some (.int .u64 s3.toNat) := (hb4.cell (p := ⟨w.heap.size, 3, none⟩) (by first | omega | (simp; done) | (simp; omega))).trans (by go_simp); have kf4w_heap_size_3 : w4.frozen? ⟨w.heap.size, 3, none⟩ = false := (hb4.frozen (p := ⟨w.heap.size, 3, none⟩) (by first | omega | (simp; done) | (simp; omega))).trans (by go_simp)
          have kc4wc_heap_size___1___1_0 : w4.cell? ⟨wc.heap.size + 1 + 1, 0, none⟩ = some (.int .u64 x0.toNat) := (hb4.cell (p := ⟨wc.heap.size + 1 + 1, 0, none⟩) (by first | omega | (simp; done) | (simp; omega))).trans (by go_simp); have kf4wc_heap_size___1___1_0 : w4.frozen? ⟨wc.heap.size + 1 + 1, 0, none⟩ = false := (hb4.frozen (p := ⟨wc.heap.size + 1 + 1, 0, none⟩) (by first | omega | (simp; done) | (simp; omega))).trans (by go_simp); have kc4wc_heap_size___1___1_1 : w4.cell? ⟨wc.heap.size + 1 + 1, 1, none⟩ = some (.int .u64 x1.toNat) := (hb4.cell (p := ⟨wc.heap.size + 1 + 1, 1, none⟩) (by first | omega | (simp; done) | (simp; omega))).trans (by go_simp); have kf4wc_heap_size___1___1_1 : w4.frozen? ⟨wc.heap.size + 1 + 1, 1, none⟩ = false := (hb4.frozen (p := ⟨wc.heap.size + 1 + 1, 1, none⟩) (by first | omega | (simp; done) | (simp; omega))).trans (by go_simp); have kc4wc_heap_size___1___1_2 : w4.cell? ⟨wc.heap.size + 1 + 1, 2, none⟩ = some (.int .u64 x2.toNat) := (hb4.cell (p := ⟨wc.heap.size + 1 + 1, 2, none⟩) (by first | omega | (simp; done) | (simp; omega))).trans (by go_simp); have kf4wc_heap_size___1___1_2 : w4.frozen? ⟨wc.heap.size + 1 + 1, 2, none⟩ = false := (hb4.frozen (p := ⟨wc.heap.size + 1 + 1, 2, none⟩) (by first | omega | (simp; done) | (simp; omega))).trans (by go_simp); have kc4wc_heap_size___1___1_3 : w4.cell? ⟨wc.heap.size + 1 + 1, 3, none⟩ = some (.int .u64 x3.toNat) := (hb4.cell (p := ⟨wc.heap.size + 1 + 1, 3, none⟩) (by first | omega | (simp; done) | (simp; omega))).trans (by go_simp); have kf4wc_heap_size___1___1_3 : w4.frozen? ⟨wc.heap.size + 1 + 1, 3, none⟩ = false := (hb4.frozen (p := ⟨wc.heap.size + 1 + 1, 3, none⟩) (by first | omega | (simp; done) | (simp; omega))).trans (by go_simp)
          have kc4w2_heap_size_0 : w4.cell? ⟨w2.heap.size, 0, none⟩ = some (.int .u64 0) := (hb4.cell (p := ⟨w2.heap.size, 0, none⟩) (by first | omega | (simp; done) | (simp; omega))).trans (by go_simp); have kf4w2_heap_size_0 : w4.frozen? ⟨w2.heap.size, 0, none⟩ = false := (hb4.frozen (p := ⟨w2.heap.size, 0, none⟩) (by first | omega | (simp; done) | (simp; omega))).trans (by go_simp); have kc4w2_heap_size_1 : w4.cell? ⟨w2.heap.size, 1, none⟩ = some (.int .u64 0) := (hb4.cell (p := ⟨w2.heap.size, 1, none⟩) (by first | omega | (simp; done) | (simp; omega))).trans (by go_simp); have kf4w2_heap_size_1 : w4.frozen? ⟨w2.heap.size, 1, none⟩ = false := (hb4.frozen (p := ⟨w2.heap.size, 1, none⟩) (by first | omega | (simp; done) | (simp; omega))).trans (by go_simp); have kc4w2_heap_size_2 : w4.cell? ⟨w2.heap.size, 2, none⟩ = some (.int .u64 0) := (hb4.cell (p := ⟨w2.heap.size, 2, none⟩) (by first | omega | (simp; done) | (simp; omega))).trans (by go_simp); have kf4w2_heap_size_2 : w4.frozen? ⟨w2.heap.size, 2, none⟩ = false := (hb4.frozen (p := ⟨w2.heap.size, 2, none⟩) (by first | omega | (simp; done) | (simp; omega))).trans (by go_simp); have kc4w2_heap_size_3 : w4.cell? ⟨w2.heap.size, 3, none⟩ = some (.int .u64 0) := (hb4.cell (p := ⟨w2.heap.size, 3, none⟩) (by first | omega | (simp; done) | (simp; omega))).trans (by go_simp); have kf4w2_heap_size_3 : w4.frozen? ⟨w2.heap.size, 3, none⟩ = false := (hb4.frozen (p := ⟨w2.heap.size, 3, none⟩) (by first | omega | (simp; done) | (simp; omega))).trans (by go_simp)
          go_wp2_with fail
          refine (D5.out _).mono ?_
          rintro e w5 ⟨rfl, hb5⟩
          have hz5 := hb5.size; (try simp at hz5)
          have kc5wc_heap_size___1___1_0 : w5.cell? ⟨wc.heap.size + 1 + 1, 0, none⟩ = some (.int .u64 x0.toNat) := (hb5.cell (p := ⟨wc.heap.size + 1 + 1, 0, none⟩) (by first | omega | (simp; done) | (simp; omega))).trans (by go_simp); have kf5wc_heap_size___1___1_0 : w5.frozen? ⟨wc.heap.size + 1 + 1, 0, none⟩ = false := (hb5.frozen (p := ⟨wc.heap.size + 1 + 1, 0, none⟩) (by first | omega | (simp; done) | (simp; omega))).trans (by go_simp); have kc5wc_heap_size___1___1_1 : w5.cell? ⟨wc.heap.size + 1 + 1, 1, none⟩ = some (.int .u64 x1.toNat) := (hb5.cell (p := ⟨wc.heap.size + 1 + 1, 1, none⟩) (by first | omega | (simp; done) | (simp; omega))).trans (by go_simp); have kf5wc_heap_size___1___1_1 : w5.frozen? ⟨wc.heap.size + 1 + 1, 1, none⟩ = false := (hb5.frozen (p := ⟨wc.heap.size + 1 + 1, 1, none⟩) (by first | omega | (simp; done) | (simp; omega))).trans (by go_simp); have kc5wc_heap_size___1___1_2 : w5.cell? ⟨wc.heap.size + 1 + 1, 2, none⟩ = some (.int .u64 x2.toNat) := (hb5.cell (p := ⟨wc.heap.size + 1 + 1, 2, none⟩) (by first | omega | (simp; done) | (simp; omega))).trans (by go_simp); have kf5wc_heap_size___1___1_2 : w5.frozen? ⟨wc.heap.size + 1 + 1, 2, none⟩ = false := (hb5.frozen (p := ⟨wc.heap.size + 1 + 1, 2, none⟩) (by first | omega | (simp; done) | (simp; omega))).trans (by go_simp); have kc5wc_heap_size___1___1_3 : w5.cell? ⟨wc.heap.size + 1 + 1, 3, none⟩ = some (.int .u64 x3.toNat) := (hb5.cell (p := ⟨wc.heap.size + 1 + 1, 3, none⟩) (by first | omega | (simp; done) | (simp; omega))).trans (by go_simp); have kf5wc_heap_size___1___1_3 : w5.frozen? ⟨wc.heap.size + 1 + 1, 3, none⟩ = false := (hb5.frozen (p := ⟨wc.heap.size + 1 + 1, 3, none⟩) (by first | omega | (simp; done) | (simp; omega))).trans (by go_simp)
          have kc5w2_heap_size_0 : w5.cell? ⟨w2.heap.size, 0, none⟩ = some (.int .u64 0) := (hb5.cell (p := ⟨w2.heap.size, 0, none⟩) (by first | omega | (simp; done) | (simp; omega))).trans (by go_simp); have kf5w2_heap_size_0 : w5.frozen? ⟨w2.heap.size, 0, none⟩ = false := (hb5.frozen (p := ⟨w2.heap.size, 0, none⟩) (by first | omega | (simp; done) | (simp; omega))).trans (by go_simp); have kc5w2_heap_size_1 : w5.cell? ⟨w2.heap.size, 1, none⟩ = some (.int .u64 0) := (hb5.cell (p := ⟨w2.heap.size, 1, none⟩) (by first | omega | (simp; done) | (simp; omega))).trans (by go_simp); have kf5w2_heap_size_1 : w5.frozen? ⟨w2.heap.size, 1, none⟩ = false := (hb5.frozen (p := ⟨w2.heap.size, 1, none⟩) (by first | omega | (simp; done) | (simp; omega))).trans (by go_simp); have kc5w2_heap_size_2 : w5.cell? ⟨w2.heap.size, 2, none⟩ = some (.int .u64 0) := (hb5.cell (p := ⟨w2.heap.size, 2, none⟩) (by first | omega | (simp; done) | (simp; omega))).trans (by go_simp); have kf5w2_heap_size_2 : w5.frozen? ⟨w2.heap.size, 2, none⟩ = false := (hb5.frozen (p := ⟨w2.heap.size, 2, none⟩) (by first | omega | (simp; done) | (simp; omega))).trans (by go_simp); have kc5w2_heap_size_3 : w5.cell? ⟨w2.heap.size, 3, none⟩ = some (.int .u64 0) := (hb5.cell (p := ⟨w2.heap.size, 3, none⟩) (by first | omega | (simp; done) | (simp; omega))).trans (by go_simp); have kf5w2_heap_size_3 : w5.frozen? ⟨w2.heap.size, 3, none⟩ = false := (hb5.frozen (p := ⟨w2.heap.size, 3, none⟩) (by first | omega | (simp; done) | (simp; omega))).trans (by go_simp)
          go_wp2
          go_ret
          exact ⟨rfl, by (repeat' (first | (with_reducible exact Below.refl _ _) | (with_reducible assumption) | (with_reducible refine Below.alloc ?_ ?_ _) | (with_reducible refine Below.drew ?_) | (with_reducible refine below_drewN ?_ _) | (with_reducible refine Below.setCell ?_ ?_ _) | (with_reducible refine Below.trans ?_ (Below.mono (by assumption) ?_)) | go_size))⟩
        · skip
          obtain rfl : m = (n : Int) := by omega
          have nm : ¬ (n : Int) < 0 := by omega
          have nm2 : (0 : Int) ≤ n := by omega
          have nm3 : (n : Int) ≤ 2048 := by omega
          have nm4 : ¬ (2048 : Int) < n := by omega
          have nm5 : ¬ (256 : Int) < n := by omega
          go_wp2_with fail
          have hwo := xwords_ok n (by omega) s0 s1 s2 s3 HS0.out wr
          unfold WordsPost at hwo
          rw [hx.out] at hwo
          refine hwo.mono ?_
          rintro e w2 ⟨vl, rfl, hol, hb2⟩
          clear hwo
          have HOL := Lib.hid hol
          clear hol
          have hz2 := hb2.size
          have B2 := HB.out.below hb2
          have fcw2_s0 : w2.cell? ⟨w.heap.size, 0, none⟩ = some (.int .u64 s0.toNat) := (B2.head 0 _ rfl).1; have ffw2_s0 : w2.frozen? ⟨w.heap.size, 0, none⟩ = false := (B2.head 0 _ rfl).2; have fcw2_s1 : w2.cell? ⟨w.heap.size, 1, none⟩ = some (.int .u64 s1.toNat) := (B2.head 1 _ rfl).1; have ffw2_s1 : w2.frozen? ⟨w.heap.size, 1, none⟩ = false := (B2.head 1 _ rfl).2; have fcw2_s2 : w2.cell? ⟨w.heap.size, 2, none⟩ = some (.int .u64 s2.toNat) := (B2.head 2 _ rfl).1; have ffw2_s2 : w2.frozen? ⟨w.heap.size, 2, none⟩ = false := (B2.head 2 _ rfl).2; have fcw2_s3 : w2.cell? ⟨w.heap.size, 3, none⟩ = some (.int .u64 s3.toNat) := (B2.head 3 _ rfl).1; have ffw2_s3 : w2.frozen? ⟨w.heap.size, 3, none⟩ = false := (B2.head 3 _ rfl).2; have fcw2_y0 : w2.cell? ⟨wc.heap.size + 1 + 1, 0, none⟩ = some (.int .u64 x0.toNat) := (B2.tail.head 0 _ rfl).1; have ffw2_y0 : w2.frozen? ⟨wc.heap.size + 1 + 1, 0, none⟩ = false := (B2.tail.head 0 _ rfl).2; have fcw2_y1 : w2.cell? ⟨wc.heap.size + 1 + 1, 1, none⟩ = some (.int .u64 x1.toNat) := (B2.tail.head 1 _ rfl).1; have ffw2_y1 : w2.frozen? ⟨wc.heap.size + 1 + 1, 1, none⟩ = false := (B2.tail.head 1 _ rfl).2; have fcw2_y2 : w2.cell? ⟨wc.heap.size + 1 + 1, 2, none⟩ = some (.int .u64 x2.toNat) := (B2.tail.head 2 _ rfl).1; have ffw2_y2 : w2.frozen? ⟨wc.heap.size + 1 + 1, 2, none⟩ = false := (B2.tail.head 2 _ rfl).2; have fcw2_y3 : w2.cell? ⟨wc.heap.size + 1 + 1, 3, none⟩ = some (.int .u64 x3.toNat) := (B2.tail.head 3 _ rfl).1; have ffw2_y3 : w2.frozen? ⟨wc.heap.size + 1 + 1, 3, none⟩ = false := (B2.tail.head 3 _ rfl).2
          have HB2 := Lib.hid B2
          clear B2
          go_wp2_with fail
          refine (xbits_ok n (by omega) _ _ _ _ _).mono ?_
          rintro e w3 ⟨vq, rfl, hoq, hb3⟩
          have HOQ := Lib.hid hoq
          clear hoq
          have hz3 := hb3.size; (try simp at hz3)
          have kc3w_heap_size_0 : w3.cell? ⟨w.heap.size, 0, none⟩ = some (.int .u64 s0.toNat) := (hb3.cell (p := ⟨w.heap.size, 0, none⟩) (by first | omega | (simp; done) | (simp; omega))).trans (by go_simp); have kf3w_heap_size_0 : w3.frozen? ⟨w.heap.size, 0, none⟩ = false := (hb3.frozen (p := ⟨w.heap.size, 0, none⟩) (by first | omega | (simp; done) | (simp; omega))).trans (by go_simp); have kc3w_heap_size_1 : w3.cell? ⟨w.heap.size, 1, none⟩ = some (.int .u64 s1.toNat) := (hb3.cell (p := ⟨w.heap.size, 1, none⟩) (by first | omega | (simp; done) | (simp; omega))).trans (by go_simp); have kf3w_heap_size_1 : w3.frozen? ⟨w.heap.size, 1, none⟩ = false := (hb3.frozen (p := ⟨w.heap.size, 1, none⟩) (by first | omega | (simp; done) | (simp; omega))).trans (by go_simp); have kc3w_heap_size_2 : w3.cell? ⟨w.heap.size, 2, none⟩ = some (.int .u64 s2.toNat) := (hb3.cell (p := ⟨w.heap.size, 2, none⟩) (by first | omega | (simp; done) | (simp; omega))).trans (by go_simp); have kf3w_heap_size_2 : w3.frozen? ⟨w.heap.size, 2, none⟩ = false := (hb3.frozen (p := ⟨w.heap.size, 2, none⟩) (by first | omega | (simp; done) | (simp; omega))).trans (by go_simp); have kc3w_heap_size_3 : w3.cell? ⟨w.heap.size, 3, none⟩ = some (.int .u64 s3.toNat) := (hb3.cell (p := ⟨w.heap.size, 3, none⟩) (by first | omega | (simp; done) | (simp; omega))).trans (by go_simp); have kf3w_heap_size_3 : w3.frozen? ⟨w.heap.size, 3, none⟩ = false := (hb3.frozen (p := ⟨w.heap.size, 3, none⟩) (by first | omega | (simp; done) | (simp; omega))).trans (by go_simp)
          have kc3wc_heap_size___1___1_0 : w3.cell? ⟨wc.heap.size + 1 + 1, 0, none⟩ = some (.int .u64 x0.toNat) := (hb3.cell (p := ⟨wc.heap.size + 1 + 1, 0, none⟩) (by first | omega | (simp; done) | (simp; omega))).trans (by go_simp); have kf3wc_heap_size___1___1_0 : w3.frozen? ⟨wc.heap.size + 1 + 1, 0, none⟩ = false := (hb3.frozen (p := ⟨wc.heap.size + 1 + 1, 0, none⟩) (by first | omega | (simp; done) | (simp; omega))).trans (by go_simp); have kc3wc_heap_size___1___1_1 : w3.cell? ⟨wc.heap.size + 1 + 1, 1, none⟩ = some (.int .u64 x1.toNat) := (hb3.cell (p := ⟨wc.heap.size + 1 + 1, 1, none⟩) (by first | omega | (simp; done) | (simp; omega))).trans (by go_simp); have kf3wc_heap_size___1___1_1 : w3.frozen? ⟨wc.heap.size + 1 + 1, 1, none⟩ = false := (hb3.frozen (p := ⟨wc.heap.size + 1 + 1, 1, none⟩) (by first | omega | (simp; done) | (simp; omega))).trans (by go_simp); have kc3wc_heap_size___1___1_2 : w3.cell? ⟨wc.heap.size + 1 + 1, 2, none⟩ = some (.int .u64 x2.toNat) := (hb3.cell (p := ⟨wc.heap.size + 1 + 1, 2, none⟩) (by first | omega | (simp; done) | (simp; omega))).trans (by go_simp); have kf3wc_heap_size___1___1_2 : w3.frozen? ⟨wc.heap.size + 1 + 1, 2, none⟩ = false := (hb3.frozen (p := ⟨wc.heap.size + 1 + 1, 2, none⟩) (by first | omega | (simp; done) | (simp; omega))).trans (by go_simp); have kc3wc_heap_size___1___1_3 : w3.cell? ⟨wc.heap.size + 1 + 1, 3, none⟩ = some (.int .u64 x3.toNat) := (hb3.cell (p := ⟨wc.heap.size + 1 + 1, 3, none⟩) (by first | omega | (simp; done) | (simp; omega))).trans (by go_simp); have kf3wc_heap_size___1___1_3 : w3.frozen? ⟨wc.heap.size + 1 + 1, 3, none⟩ = false := (hb3.frozen (p := ⟨wc.heap.size + 1 + 1, 3, none⟩) (by first | omega | (simp; done) | (simp; omega))).trans (by go_simp)
          have kc3w2_heap_size_0 : w3.cell? ⟨w2.heap.size, 0, none⟩ = some (.int .u64 x0.toNat) := (hb3.cell (p := ⟨w2.heap.size, 0, none⟩) (by first | omega | (simp; done) | (simp; omega))).trans (by go_simp); have kf3w2_heap_size_0 : w3.frozen? ⟨w2.heap.size, 0, none⟩ = false := (hb3.frozen (p := ⟨w2.heap.size, 0, none⟩) (by first | omega | (simp; done) | (simp; omega))).trans (by go_simp); have kc3w2_heap_size_1 : w3.cell? ⟨w2.heap.size, 1, none⟩ = some (.int .u64 x1.toNat) := (hb3.cell (p := ⟨w2.heap.size, 1, none⟩) (by first | omega | (simp; done) | (simp; omega))).trans (by go_simp); have kf3w2_heap_size_1 : w3.frozen? ⟨w2.heap.size, 1, none⟩ = false := (hb3.frozen (p := ⟨w2.heap.size, 1, none⟩) (by first | omega | (simp; done) | (simp; omega))).trans (by go_simp); have kc3w2_heap_size_2 : w3.cell? ⟨w2.heap.size, 2, none⟩ = some (.int .u64 x2.toNat) := (hb3.cell (p := ⟨w2.heap.size, 2, none⟩) (by first | omega | (simp; done) | (simp; omega))).trans (by go_simp); have kf3w2_heap_size_2 : w3.frozen? ⟨w2.heap.size, 2, none⟩ = false := (hb3.frozen (p := ⟨w2.heap.size, 2, none⟩) (by first | omega | (simp; done) | (simp; omega))).trans (by go_simp); have kc3w2_heap_size_3 : w3.cell? ⟨w2.heap.size, 3, none⟩ = some (.int .u64 x3.toNat) := (hb3.cell (p := ⟨w2.heap.size, 3, none⟩) (by first | omega | (simp; done) | (simp; omega))).trans (by go_simp); have kf3w2_heap_size_3 : w3.frozen? ⟨w2.heap.size, 3, none⟩ = false := (hb3.frozen (p := ⟨w2.heap.size, 3, none⟩) (by first | omega | (simp; done) | (simp; omega))).trans (by go_simp)
          go_wp2_with fail
          refine (same_same (Xo.bitsL n ⟨s0, s1, s2, s3⟩) (by rw [Xo.bits_length]; omega) vq u6 _ wc.heap.size _ (by rw [Xo.bits_length]; exact HOQ.out) (by rw [Xo.bits_length]; exact owns_below ((owns_below HV.out hb2).alloc _) hb3)).mono ?_
          rintro e w4 ⟨rfl, hb4⟩
          have hz4 := hb4.size; (try simp at hz4)
          have kc4w_heap_size_0 : w4.cell? ⟨w.heap.size, 0, none⟩ = some (.int .u64 s0.toNat) := (hb4.cell (p := ⟨w.heap.size, 0, none⟩) (by first | omega | (simp; done) | (simp; omega))).trans (by go_simp); have kf4w_heap_size_0 : w4.frozen? ⟨w.heap.size, 0, none⟩ = false := (hb4.frozen (p := ⟨w.heap.size, 0, none⟩) (by first | omega | (simp; done) | (simp; omega))).trans (by go_simp); have kc4w_heap_size_1 : w4.cell? ⟨w.heap.size, 1, none⟩ = some (.int .u64 s1.toNat) := (hb4.cell (p := ⟨w.heap.size, 1, none⟩) (by first | omega | (simp; done) | (simp; omega))).trans (by go_simp); have kf4w_heap_size_1 : w4.frozen? ⟨w.heap.size, 1, none⟩ = false := (hb4.frozen (p := ⟨w.heap.size, 1, none⟩) (by first | omega | (simp; done) | (simp; omega))).trans (by go_simp); have kc4w_heap_size_2 : w4.cell? ⟨w.heap.size, 2, none⟩ = some (.int .u64 s2.toNat) := (hb4.cell (p := ⟨w.heap.size, 2, none⟩) (by first | omega | (simp; done) | (simp; omega))).trans (by go_simp); have kf4w_heap_size_2 : w4.frozen? ⟨w.heap.size, 2, none⟩ = false := (hb4.frozen (p := ⟨w.heap.size, 2, none⟩) (by first | omega | (simp; done) | (simp; omega))).trans (by go_simp); have kc4w_heap_size_3 : w4.cell? ⟨w.heap.size, 3, none⟩ = some (.int .u64 s3.toNat) := (hb4.cell (p := ⟨w.heap.size, 3, none⟩) (by first | omega | (simp; done) | (simp; omega))).trans (by go_simp); have kf4w_heap_size_3 : w4.frozen? ⟨w.heap.size, 3, none⟩ = false := (hb4.frozen (p := ⟨w.heap.size, 3, none⟩) (by first | omega | (simp; done) | (simp; omega))).trans (by go_simp)
          have kc4wc_heap_size___1___1_0 : w4.cell? ⟨wc.heap.size + 1 + 1, 0, none⟩ = some (.int .u64 x0.toNat) := (hb4.cell (p := ⟨wc.heap.size + 1 + 1, 0, none⟩) (by first | omega | (simp; done) | (simp; omega))).trans (by go_simp); have kf4wc_heap_size___1___1_0 : w4.frozen? ⟨wc.heap.size + 1 + 1, 0, none⟩ = false := (hb4.frozen (p := ⟨wc.heap.size + 1 + 1, 0, none⟩) (by first | omega | (simp; done) | (simp; omega))).trans (by go_simp); have kc4wc_heap_size___1___1_1 : w4.cell? ⟨wc.heap.size + 1 + 1, 1, none⟩ = some (.int .u64 x1.toNat) := (hb4.cell (p := ⟨wc.heap.size + 1 + 1, 1, none⟩) (by first | omega | (simp; done) | (simp; omega))).trans (by go_simp); have kf4wc_heap_size___1___1_1 : w4.frozen? ⟨wc.heap.size + 1 + 1, 1, none⟩ = false := (hb4.frozen (p := ⟨wc.heap.size + 1 + 1, 1, none⟩) (by first | omega | (simp; done) | (simp; omega))).trans (by go_simp); have kc4wc_heap_size___1___1_2 : w4.cell? ⟨wc.heap.size + 1 + 1, 2, none⟩ = some (.int .u64 x2.toNat) := (hb4.cell (p := ⟨wc.heap.size + 1 + 1, 2, none⟩) (by first | omega | (simp; done) | (simp; omega))).trans (by go_simp); have kf4wc_heap_size___1___1_2 : w4.frozen? ⟨wc.heap.size + 1 + 1, 2, none⟩ = false := (hb4.frozen (p := ⟨wc.heap.size + 1 + 1, 2, none⟩) (by first | omega | (simp; done) | (simp; omega))).trans (by go_simp); have kc4wc_heap_size___1___1_3 : w4.cell? ⟨wc.heap.size + 1 + 1, 3, none⟩ = some (.int .u64 x3.toNat) := (hb4.cell (p := ⟨wc.heap.size + 1 + 1, 3, none⟩) (by first | omega | (simp; done) | (simp; omega))).trans (by go_simp); have kf4wc_heap_size___1___1_3 : w4.frozen? ⟨wc.heap.size + 1 + 1, 3, none⟩ = false := (hb4.frozen (p := ⟨wc.heap.size + 1 + 1, 3, none⟩) (by first | omega | (simp; done) | (simp; omega))).trans (by go_simp)
          have kc4w2_heap_size_0 : w4.cell? ⟨w2.heap.size, 0, none⟩ = some (.int .u64 x0.toNat) := (hb4.cell (p := ⟨w2.heap.size, 0, none⟩) (by first | omega | (simp; done) | (simp; omega))).trans (by go_simp); have kf4w2_heap_size_0 : w4.frozen? ⟨w2.heap.size, 0, none⟩ = false := (hb4.frozen (p := ⟨w2.heap.size, 0, none⟩) (by first | omega | (simp; done) | (simp; omega))).trans (by go_simp); have kc4w2_heap_size_1 : w4.cell? ⟨w2.heap.size, 1, none⟩ = some (.int .u64 x1.toNat) := (hb4.cell (p := ⟨w2.heap.size, 1, none⟩) (by first | omega | (simp; done) | (simp; omega))).trans (by go_simp); have kf4w2_heap_size_1 : w4.frozen? ⟨w2.heap.size, 1, none⟩ = false := (hb4.frozen (p := ⟨w2.heap.size, 1, none⟩) (by first | omega | (simp; done) | (simp; omega))).trans (by go_simp); have kc4w2_heap_size_2 : w4.cell? ⟨w2.heap.size, 2, none⟩ = some (.int .u64 x2.toNat) := (hb4.cell (p := ⟨w2.heap.size, 2, none⟩) (by first | omega | (simp; done) | (simp; omega))).trans (by go_simp); have kf4w2_heap_size_2 : w4.frozen? ⟨w2.heap.size, 2, none⟩ = false := (hb4.frozen (p := ⟨w2.heap.size, 2, none⟩) (by first | omega | (simp; done) | (simp; omega))).trans (by go_simp); have kc4w2_heap_size_3 : w4.cell? ⟨w2.heap.size, 3, none⟩ = some (.int .u64 x3.toNat) := (hb4.cell (p := ⟨w2.heap.size, 3, none⟩) (by first | omega | (simp; done) | (simp; omega))).trans (by go_simp); have kf4w2_heap_size_3 : w4.frozen? ⟨w2.heap.size, 3, none⟩ = false := (hb4.frozen (p := ⟨w2.heap.size, 3, none⟩) (by first | omega | (simp; done) | (simp; omega))).trans (by go_simp)
          go_wp2_with fail
          refine (D5.out _).mono ?_
          rintro e w5 ⟨rfl, hb5⟩
          have hz5 := hb5.size; (try simp at hz5)
          have kc5wc_heap_size___1___1_0 : w5.cell? ⟨wc.heap.size + 1 + 1, 0, none⟩ = some (.int .u64 x0.toNat) := (hb5.cell (p := ⟨wc.heap.size + 1 + 1, 0, none⟩) (by first | omega | (simp; done) | (simp; omega))).trans (by go_simp); have kf5wc_heap_size___1___1_0 : w5.frozen? ⟨wc.heap.size + 1 + 1, 0, none⟩ = false := (hb5.frozen (p := ⟨wc.heap.size + 1 + 1, 0, none⟩) (by first | omega | (simp; done) | (simp; omega))).trans (by go_simp); have kc5wc_heap_size___1___1_1 : w5.cell? ⟨wc.heap.size + 1 + 1, 1, none⟩ = some (.int .u64 x1.toNat) := (hb5.cell (p := ⟨wc.heap.size + 1 + 1, 1, none⟩) (by first | omega | (simp; done) | (simp; omega))).trans (by go_simp); have kf5wc_heap_size___1___1_1 : w5.frozen? ⟨wc.heap.size + 1 + 1, 1, none⟩ = false := (hb5.frozen (p := ⟨wc.heap.size + 1 + 1, 1, none⟩) (by first | omega | (simp; done) | (simp; omega))).trans (by go_simp); have kc5wc_heap_size___1___1_2 : w5.cell? ⟨wc.heap.size + 1 + 1, 2, none⟩ = some (.int .u64 x2.toNat) := (hb5.cell (p := ⟨wc.heap.size + 1 + 1, 2, none⟩) (by first | omega | (simp; done) | (simp; omega))).trans (by go_simp); have kf5wc_heap_size___1___1_2 : w5.frozen? ⟨wc.heap.size + 1 + 1, 2, none⟩ = false := (hb5.frozen (p := ⟨wc.heap.size + 1 + 1, 2, none⟩) (by first | omega | (simp; done) | (simp; omega))).trans (by go_simp); have kc5wc_heap_size___1___1_3 : w5.cell? ⟨wc.heap.size + 1 + 1, 3, none⟩ = some (.int .u64 x3.toNat) := (hb5.cell (p := ⟨wc.heap.size + 1 + 1, 3, none⟩) (by first | omega | (simp; done) | (simp; omega))).trans (by go_simp); have kf5wc_heap_size___1___1_3 : w5.frozen? ⟨wc.heap.size + 1 + 1, 3, none⟩ = false := (hb5.frozen (p := ⟨wc.heap.size + 1 + 1, 3, none⟩) (by first | omega | (simp; done) | (simp; omega))).trans (by go_simp)
          have kc5w2_heap_size_0 : w5.cell? ⟨w2.heap.size, 0, none⟩ = some (.int .u64 x0.toNat) := (hb5.cell (p := ⟨w2.heap.size, 0, none⟩) (by first | omega | (simp; done) | (simp; omega))).trans (by go_simp); have kf5w2_heap_size_0 : w5.frozen? ⟨w2.heap.size, 0, none⟩ = false := (hb5.frozen (p := ⟨w2.heap.size, 0, none⟩) (by first | omega | (simp; done) | (simp; omega))).trans (by go_simp); have kc5w2_heap_size_1 : w5.cell? ⟨w2.heap.size, 1, none⟩ = some (.int .u64 x1.toNat) := (hb5.cell (p := ⟨w2.heap.size, 1, none⟩) (by first | omega | (simp; done) | (simp; omega))).trans (by go_simp); have kf5w2_heap_size_1 : w5.frozen? ⟨w2.heap.size, 1, none⟩ = false := (hb5.frozen (p := ⟨w2.heap.size, 1, none⟩) (by first | omega | (simp; done) | (simp; omega))).trans (by go_simp); have kc5w2_heap_size_2 : w5.cell? ⟨w2.heap.size, 2, none⟩ = some (.int .u64 x2.toNat) := (hb5.cell (p := ⟨w2.heap.size, 2, none⟩) (by first | omega | (simp; done) | (simp; omega))).trans (by go_simp); have kf5w2_heap_size_2 : w5.frozen? ⟨w2.heap.size, 2, none⟩ = false := (hb5.frozen (p := ⟨w2.heap.size, 2, none⟩) (by first | omega | (simp; done) | (simp; omega))).trans (by go_simp); have kc5w2_heap_size_3 : w5.cell? ⟨w2.heap.size, 3, none⟩ = some (.int .u64 x3.toNat) := (hb5.cell (p := ⟨w2.heap.size, 3, none⟩) (by first | omega | (simp; done) | (simp; omega))).trans (by go_simp); have kf5w2_heap_size_3 : w5.frozen? ⟨w2.heap.size, 3, none⟩ = false := (hb5.frozen (p := ⟨w2.heap.size, 3, none⟩) (by first | omega | (simp; done) | (simp; omega))).trans (by go_simp)
          go_wp2_with fail
          refine (words_same (Xo.words n ⟨s0, s1, s2, s3⟩) (by rw [Xo.words_length]; omega) vl u5 _ wc.heap.size _ (by rw [Xo.words_length]; exact owns_below (owns_below (owns_below (HOL.out.alloc _) hb3) hb4) hb5) (by rw [Xo.words_length]; have h := HU.out; rw [show min n 256 = n from by omega] at h; exact owns_below (owns_below (owns_below ((owns_below h hb2).alloc _) hb3) hb4) hb5)).mono ?_
          rintro e w6 ⟨rfl, hb6⟩
          have hz6 := hb6.size; (try simp at hz6)
          have kc6wc_heap_size___1___1_0 : w6.cell? ⟨wc.heap.size + 1 + 1, 0, none⟩ = some (.int .u64 x0.toNat) := (hb6.cell (p := ⟨wc.heap.size + 1 + 1, 0, none⟩) (by first | omega | (simp; done) | (simp; omega))).trans (by go_simp); have kf6wc_heap_size___1___1_0 : w6.frozen? ⟨wc.heap.size + 1 + 1, 0, none⟩ = false := (hb6.frozen (p := ⟨wc.heap.size + 1 + 1, 0, none⟩) (by first | omega | (simp; done) | (simp; omega))).trans (by go_simp); have kc6wc_heap_size___1___1_1 : w6.cell? ⟨wc.heap.size + 1 + 1, 1, none⟩ = some (.int .u64 x1.toNat) := (hb6.cell (p := ⟨wc.heap.size + 1 + 1, 1, none⟩) (by first | omega | (simp; done) | (simp; omega))).trans (by go_simp); have kf6wc_heap_size___1___1_1 : w6.frozen? ⟨wc.heap.size + 1 + 1, 1, none⟩ = false := (hb6.frozen (p := ⟨wc.heap.size + 1 + 1, 1, none⟩) (by first | omega | (simp; done) | (simp; omega))).trans (by go_simp); have kc6wc_heap_size___1___1_2 : w6.cell? ⟨wc.heap.size + 1 + 1, 2, none⟩ = some (.int .u64 x2.toNat) := (hb6.cell (p := ⟨wc.heap.size + 1 + 1, 2, none⟩) (by first | omega | (simp; done) | (simp; omega))).trans (by go_simp); have kf6wc_heap_size___1___1_2 : w6.frozen? ⟨wc.heap.size + 1 + 1, 2, none⟩ = false := (hb6.frozen (p := ⟨wc.heap.size + 1 + 1, 2, none⟩) (by first | omega | (simp; done) | (simp; omega))).trans (by go_simp); have kc6wc_heap_size___1___1_3 : w6.cell? ⟨wc.heap.size + 1 + 1, 3, none⟩ = some (.int .u64 x3.toNat) := (hb6.cell (p := ⟨wc.heap.size + 1 + 1, 3, none⟩) (by first | omega | (simp; done) | (simp; omega))).trans (by go_simp); have kf6wc_heap_size___1___1_3 : w6.frozen? ⟨wc.heap.size + 1 + 1, 3, none⟩ = false := (hb6.frozen (p := ⟨wc.heap.size + 1 + 1, 3, none⟩) (by first | omega | (simp; done) | (simp; omega))).trans (by go_simp)
          have kc6w2_heap_size_0 : w6.cell? ⟨w2.heap.size, 0, none⟩ = some (.int .u64 x0.toNat) := (hb6.cell (p := ⟨w2.heap.size, 0, none⟩) (by first | omega | (simp; done) | (simp; omega))).trans (by go_simp); have kf6w2_heap_size_0 : w6.frozen? ⟨w2.heap.size, 0, none⟩ = false := (hb6.frozen (p := ⟨w2.heap.size, 0, none⟩) (by first | omega | (simp; done) | (simp; omega))).trans (by go_simp); have kc6w2_heap_size_1 : w6.cell? ⟨w2.heap.size, 1, none⟩ = some (.int .u64 x1.toNat) := (hb6.cell (p := ⟨w2.heap.size, 1, none⟩) (by first | omega | (simp; done) | (simp; omega))).trans (by go_simp); have kf6w2_heap_size_1 : w6.frozen? ⟨w2.heap.size, 1, none⟩ = false := (hb6.frozen (p := ⟨w2.heap.size, 1, none⟩) (by first | omega | (simp; done) | (simp; omega))).trans (by go_simp); have kc6w2_heap_size_2 : w6.cell? ⟨w2.heap.size, 2, none⟩ = some (.int .u64 x2.toNat) := (hb6.cell (p := ⟨w2.heap.size, 2, none⟩) (by first | omega | (simp; done) | (simp; omega))).trans (by go_simp); have kf6w2_heap_size_2 : w6.frozen? ⟨w2.heap.size, 2, none⟩ = false := (hb6.frozen (p := ⟨w2.heap.size, 2, none⟩) (by first | omega | (simp; done) | (simp; omega))).trans (by go_simp); have kc6w2_heap_size_3 : w6.cell? ⟨w2.heap.size, 3, none⟩ = some (.int .u64 x3.toNat) := (hb6.cell (p := ⟨w2.heap.size, 3, none⟩) (by first | omega | (simp; done) | (simp; omega))).trans (by go_simp); have kf6w2_heap_size_3 : w6.frozen? ⟨w2.heap.size, 3, none⟩ = false := (hb6.frozen (p := ⟨w2.heap.size, 3, none⟩) (by first | omega | (simp; done) | (simp; omega))).trans (by go_simp)
          have E7 := eq4_self x0.toNat x1.toNat x2.toNat x3.toNat
          go_wp2
          go_ret
          exact ⟨rfl, by (repeat' (first | (with_reducible exact Below.refl _ _) | (with_reducible assumption) | (with_reducible refine Below.alloc ?_ ?_ _) | (with_reducible refine Below.drew ?_) | (with_reducible refine below_drewN ?_ _) | (with_reducible refine Below.setCell ?_ ?_ _) | (with_reducible refine Below.trans ?_ (Below.mono (by assumption) ?_)) | go_size))⟩

theorem xoshTells_walk (s0 s1 s2 s3 : BitVec 64) (m : Int) (w : World) :
    Calls Try.prog 7 #[.agg #[.int .u64 s0.toNat, .int .u64 s1.toNat, .int .u64 s2.toNat, .int .u64 s3.toNat], .int .i64 m] w fun e w' => e = .returned (.bool true) ∧ Below w.heap.size w w' := by
  by_cases hs : (⟨s0, s1, s2, s3⟩ : St) = Xo.zero
  · exact xoshTells_zero s0 s1 s2 s3 hs m w
  · exact xoshTells_live s0 s1 s2 s3 hs m w
end Go.Proofs.Ytpkfgpbneogijaa
