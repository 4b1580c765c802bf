/- mix.Unmix. -/
import Derived.Test.YtmihcjbnieoodaaMxB
import Derived.Deep.RegionHeld3
namespace Go.Proofs.Ytmihcjbnieoodaa
open Go Go.RowKit

namespace Mx
def b1 (a : BitVec 64) : BitVec 64 := a * i1
def b2 (a : BitVec 64) : BitVec 64 := a * i2
end Mx
theorem mi1 (a : BitVec 64) : IntKind.u64.wrap ((a.toNat : Int) * 10871156337175269513) = ((Mx.b1 a).toNat : Int) := by
  rw [IntKind.wrap_u64, show (10871156337175269513 : Int) = (Mx.i1.toNat : Int) from by decide, mul64]; rfl
theorem mi2 (a : BitVec 64) : IntKind.u64.wrap ((a.toNat : Int) * 3573116690164977347) = ((Mx.b2 a).toNat : Int) := by
  rw [IntKind.wrap_u64, show (3573116690164977347 : Int) = (Mx.i2.toNat : Int) from by decide, mul64]; rfl
theorem mundo31 (z : BitVec 64) (w : World) : Calls Try.prog 61 #[.int .u64 z.toNat, .int .i64 31] w fun e w' => e = .returned (.int .u64 (Mx.undo z 31).toNat) ∧ w = w' := mundo_c z 31 (by omega) (by omega) w
theorem mundo27 (z : BitVec 64) (w : World) : Calls Try.prog 61 #[.int .u64 z.toNat, .int .i64 27] w fun e w' => e = .returned (.int .u64 (Mx.undo z 27).toNat) ∧ w = w' := mundo_c z 27 (by omega) (by omega) w
theorem mundo30 (z : BitVec 64) (w : World) : Calls Try.prog 61 #[.int .u64 z.toNat, .int .i64 30] w fun e w' => e = .returned (.int .u64 (Mx.undo z 30).toNat) ∧ w = w' := mundo_c z 30 (by omega) (by omega) w
attribute [local go_sem] mi1 mi2 wid

set_option maxRecDepth 100000 in
set_option maxHeartbeats 2000000 in
theorem munmix_c (z : BitVec 64) (w : World) : Calls Try.prog 27 #[.int .u64 z.toNat] w fun e w' =>
    e = .returned (.int .u64 (Mx.unmix z).toNat) ∧ Below w.heap.size w w' := by
  go_enter Try.func27, Try.ntmps27
  go_wp2_with fail
  refine (mrounds_c _).mono ?_
  rintro e w1 ⟨rfl, hb1⟩
  have hz1 := hb1.size
  go_wp2
  go_loopw [0, 4] (fun x i wr => (∃ y : BitVec 64, x = .int .u64 y.toNat ∧ ((i = .int .i64 2 ∧ Hid (y = z)) ∨ (i = .int .i64 1 ∧ Hid (y = Mx.undo z 31)) ∨ (i = .int .i64 0 ∧ Hid (y = Mx.undo (Mx.b2 (Mx.undo z 31)) 27)) ∨ (i = .int .i64 (-1) ∧ Hid (y = Mx.unmix z)))) ∧
      (wr.cell? ⟨w1.heap.size, 0, none⟩ = some (.int .i64 30) ∧ wr.cell? ⟨w1.heap.size, 1, none⟩ = some (.int .u64 13787848793156543929) ∧ wr.cell? ⟨w1.heap.size, 2, none⟩ = some (.int .u64 10871156337175269513) ∧ wr.cell? ⟨w1.heap.size, 3, none⟩ = some (.int .i64 27) ∧ wr.cell? ⟨w1.heap.size, 4, none⟩ = some (.int .u64 10723151780598845931) ∧ wr.cell? ⟨w1.heap.size, 5, none⟩ = some (.int .u64 3573116690164977347) ∧ wr.cell? ⟨w1.heap.size, 6, none⟩ = some (.int .i64 31) ∧ wr.cell? ⟨w1.heap.size, 7, none⟩ = some (.int .u64 1) ∧ wr.cell? ⟨w1.heap.size, 8, none⟩ = some (.int .u64 1)) ∧ Below w.heap.size w wr) (fun _ i _ => (intOf i + 1).toNat)
  case atStart => exact ⟨⟨z, rfl, .inl ⟨rfl, Lib.hid rfl⟩⟩, by simp, by (repeat' (first | (with_reducible exact Below.refl _ _) | (with_reducible assumption) | (with_reducible refine Below.alloc ?_ ?_ _) | (with_reducible refine Below.drew ?_) | (with_reducible refine below_drewN ?_ _) | (with_reducible refine Below.setCell ?_ ?_ _) | (with_reducible refine Below.trans ?_ (Below.mono (by assumption) ?_)) | go_size))⟩
  case round =>
    obtain ⟨⟨y, rfl, hst⟩, ⟨e0, e1, e2, e3, e4, e5, e6, e7, e8⟩, hb⟩ := hrel
    clear hb1
    rcases hst with ⟨rfl, hy⟩ | ⟨rfl, hy⟩ | ⟨rfl, hy⟩ | ⟨rfl, hy⟩
    · skip
      go_wp2_with fail
      refine wp_region_held_drew (S := fun w' => w'.cell? ⟨w1.heap.size, 0, none⟩ = some (.int .i64 30) ∧ w'.cell? ⟨w1.heap.size, 1, none⟩ = some (.int .u64 13787848793156543929) ∧ w'.cell? ⟨w1.heap.size, 2, none⟩ = some (.int .u64 10871156337175269513) ∧ w'.cell? ⟨w1.heap.size, 3, none⟩ = some (.int .i64 27) ∧ w'.cell? ⟨w1.heap.size, 4, none⟩ = some (.int .u64 10723151780598845931) ∧ w'.cell? ⟨w1.heap.size, 5, none⟩ = some (.int .u64 3573116690164977347) ∧ w'.cell? ⟨w1.heap.size, 6, none⟩ = some (.int .i64 31) ∧ w'.cell? ⟨w1.heap.size, 7, none⟩ = some (.int .u64 1) ∧ w'.cell? ⟨w1.heap.size, 8, none⟩ = some (.int .u64 1)) (by kernel_rfl) (by (try dsimp only); go_keep) (fun hHeld => ?_)
      first
        | (refine wpAnyH_take (i := 0) (v := ?_) (by (simp only [List.getElem?_toArray, List.getElem?_cons_zero, List.getElem?_cons_succ]; rfl)) (by kernel_rfl) (by kernel_rfl) (by kernel_rfl) (by (intro _ _ _ h; exact h)) (Or.inl ⟨by rfl, ?_⟩) (by assumption) ?_; rotate_left; intro w hSw; (try dsimp only at hSw); go_simp; (try with_reducible rfl))
        | (refine wpAnyH_take (i := 0) (v := undef) (by (simp only [List.getElem?_toArray, List.getElem?_cons_zero, List.getElem?_cons_succ]; rfl)) (by kernel_rfl) (by kernel_rfl) (by kernel_rfl) (by (intro _ _ _ h; exact h)) (Or.inr ⟨by rfl, rfl⟩) (by assumption) ?_)
      (try simp only [Act.put, List.setIfInBounds_toArray, List.set_cons_zero, List.set_cons_succ])
      first
        | (refine wpAnyH_take (i := 1) (v := ?_) (by (simp only [List.getElem?_toArray, List.getElem?_cons_zero, List.getElem?_cons_succ]; rfl)) (by kernel_rfl) (by kernel_rfl) (by kernel_rfl) (by (intro _ _ _ h; exact h)) (Or.inl ⟨by rfl, ?_⟩) (by assumption) ?_; rotate_left; intro w hSw; (try dsimp only at hSw); go_simp; (try with_reducible rfl))
        | (refine wpAnyH_take (i := 1) (v := undef) (by (simp only [List.getElem?_toArray, List.getElem?_cons_zero, List.getElem?_cons_succ]; rfl)) (by kernel_rfl) (by kernel_rfl) (by kernel_rfl) (by (intro _ _ _ h; exact h)) (Or.inr ⟨by rfl, rfl⟩) (by assumption) ?_)
      (try simp only [Act.put, List.setIfInBounds_toArray, List.set_cons_zero, List.set_cons_succ])
      first
        | (refine wpAnyH_take (i := 2) (v := ?_) (by (simp only [List.getElem?_toArray, List.getElem?_cons_zero, List.getElem?_cons_succ]; rfl)) (by kernel_rfl) (by kernel_rfl) (by kernel_rfl) (by (intro _ _ _ h; exact h)) (Or.inl ⟨by rfl, ?_⟩) (by assumption) ?_; rotate_left; intro w hSw; (try dsimp only at hSw); go_simp; (try with_reducible rfl))
        | (refine wpAnyH_take (i := 2) (v := undef) (by (simp only [List.getElem?_toArray, List.getElem?_cons_zero, List.getElem?_cons_succ]; rfl)) (by kernel_rfl) (by kernel_rfl) (by kernel_rfl) (by (intro _ _ _ h; exact h)) (Or.inr ⟨by rfl, rfl⟩) (by assumption) ?_)
      (try simp only [Act.put, List.setIfInBounds_toArray, List.set_cons_zero, List.set_cons_succ])
      first
        | (refine wpAnyH_take (i := 3) (v := ?_) (by (simp only [List.getElem?_toArray, List.getElem?_cons_zero, List.getElem?_cons_succ]; rfl)) (by kernel_rfl) (by kernel_rfl) (by kernel_rfl) (by (intro _ _ _ h; exact h)) (Or.inl ⟨by rfl, ?_⟩) (by assumption) ?_; rotate_left; intro w hSw; (try dsimp only at hSw); go_simp; (try with_reducible rfl))
        | (refine wpAnyH_take (i := 3) (v := undef) (by (simp only [List.getElem?_toArray, List.getElem?_cons_zero, List.getElem?_cons_succ]; rfl)) (by kernel_rfl) (by kernel_rfl) (by kernel_rfl) (by (intro _ _ _ h; exact h)) (Or.inr ⟨by rfl, rfl⟩) (by assumption) ?_)
      (try simp only [Act.put, List.setIfInBounds_toArray, List.set_cons_zero, List.set_cons_succ])
      first
        | (refine wpAnyH_take (i := 4) (v := ?_) (by (simp only [List.getElem?_toArray, List.getElem?_cons_zero, List.getElem?_cons_succ]; rfl)) (by kernel_rfl) (by kernel_rfl) (by kernel_rfl) (by (intro _ _ _ h; exact h)) (Or.inl ⟨by rfl, ?_⟩) (by assumption) ?_; rotate_left; intro w hSw; (try dsimp only at hSw); go_simp; (try with_reducible rfl))
        | (refine wpAnyH_take (i := 4) (v := undef) (by (simp only [List.getElem?_toArray, List.getElem?_cons_zero, List.getElem?_cons_succ]; rfl)) (by kernel_rfl) (by kernel_rfl) (by kernel_rfl) (by (intro _ _ _ h; exact h)) (Or.inr ⟨by rfl, rfl⟩) (by assumption) ?_)
      (try simp only [Act.put, List.setIfInBounds_toArray, List.set_cons_zero, List.set_cons_succ])
      first
        | (refine wpAnyH_take (i := 5) (v := ?_) (by (simp only [List.getElem?_toArray, List.getElem?_cons_zero, List.getElem?_cons_succ]; rfl)) (by kernel_rfl) (by kernel_rfl) (by kernel_rfl) (by (intro _ _ _ h; exact h)) (Or.inl ⟨by rfl, ?_⟩) (by assumption) ?_; rotate_left; intro w hSw; (try dsimp only at hSw); go_simp; (try with_reducible rfl))
        | (refine wpAnyH_take (i := 5) (v := undef) (by (simp only [List.getElem?_toArray, List.getElem?_cons_zero, List.getElem?_cons_succ]; rfl)) (by kernel_rfl) (by kernel_rfl) (by kernel_rfl) (by (intro _ _ _ h; exact h)) (Or.inr ⟨by rfl, rfl⟩) (by assumption) ?_)
      (try simp only [Act.put, List.setIfInBounds_toArray, List.set_cons_zero, List.set_cons_succ])
      first
        | (refine wpAnyH_take (i := 6) (v := ?_) (by (simp only [List.getElem?_toArray, List.getElem?_cons_zero, List.getElem?_cons_succ]; rfl)) (by kernel_rfl) (by kernel_rfl) (by kernel_rfl) (by (intro _ _ _ h; exact h)) (Or.inl ⟨by rfl, ?_⟩) (by assumption) ?_; rotate_left; intro w hSw; (try dsimp only at hSw); go_simp; (try with_reducible rfl))
        | (refine wpAnyH_take (i := 6) (v := undef) (by (simp only [List.getElem?_toArray, List.getElem?_cons_zero, List.getElem?_cons_succ]; rfl)) (by kernel_rfl) (by kernel_rfl) (by kernel_rfl) (by (intro _ _ _ h; exact h)) (Or.inr ⟨by rfl, rfl⟩) (by assumption) ?_)
      (try simp only [Act.put, List.setIfInBounds_toArray, List.set_cons_zero, List.set_cons_succ])
      first
        | (refine wpAnyH_take (i := 7) (v := ?_) (by (simp only [List.getElem?_toArray, List.getElem?_cons_zero, List.getElem?_cons_succ]; rfl)) (by kernel_rfl) (by kernel_rfl) (by kernel_rfl) (by (intro _ _ _ h; exact h)) (Or.inl ⟨by rfl, ?_⟩) (by assumption) ?_; rotate_left; intro w hSw; (try dsimp only at hSw); go_simp; (try with_reducible rfl))
        | (refine wpAnyH_take (i := 7) (v := undef) (by (simp only [List.getElem?_toArray, List.getElem?_cons_zero, List.getElem?_cons_succ]; rfl)) (by kernel_rfl) (by kernel_rfl) (by kernel_rfl) (by (intro _ _ _ h; exact h)) (Or.inr ⟨by rfl, rfl⟩) (by assumption) ?_)
      (try simp only [Act.put, List.setIfInBounds_toArray, List.set_cons_zero, List.set_cons_succ])
      first
        | (refine wpAnyH_take (i := 8) (v := ?_) (by (simp only [List.getElem?_toArray, List.getElem?_cons_zero, List.getElem?_cons_succ]; rfl)) (by kernel_rfl) (by kernel_rfl) (by kernel_rfl) (by (intro _ _ _ h; exact h)) (Or.inl ⟨by rfl, ?_⟩) (by assumption) ?_; rotate_left; intro w hSw; (try dsimp only at hSw); go_simp; (try with_reducible rfl))
        | (refine wpAnyH_take (i := 8) (v := undef) (by (simp only [List.getElem?_toArray, List.getElem?_cons_zero, List.getElem?_cons_succ]; rfl)) (by kernel_rfl) (by kernel_rfl) (by kernel_rfl) (by (intro _ _ _ h; exact h)) (Or.inr ⟨by rfl, rfl⟩) (by assumption) ?_)
      (try simp only [Act.put, List.setIfInBounds_toArray, List.set_cons_zero, List.set_cons_succ])
      first
        | (refine wpAnyH_take (i := 9) (v := ?_) (by (simp only [List.getElem?_toArray, List.getElem?_cons_zero, List.getElem?_cons_succ]; rfl)) (by kernel_rfl) (by kernel_rfl) (by kernel_rfl) (by (intro _ _ _ h; exact h)) (Or.inl ⟨by rfl, ?_⟩) (by assumption) ?_; rotate_left; intro w hSw; (try dsimp only at hSw); go_simp; (try with_reducible rfl))
        | (refine wpAnyH_take (i := 9) (v := undef) (by (simp only [List.getElem?_toArray, List.getElem?_cons_zero, List.getElem?_cons_succ]; rfl)) (by kernel_rfl) (by kernel_rfl) (by kernel_rfl) (by (intro _ _ _ h; exact h)) (Or.inr ⟨by rfl, rfl⟩) (by assumption) ?_)
      (try simp only [Act.put, List.setIfInBounds_toArray, List.set_cons_zero, List.set_cons_succ])
      refine wpAnyH_ready (rs := [10]) (by kernel_rfl) (by simp) (AllReadyH.cons (by (simp only [List.getElem?_toArray, List.getElem?_cons_zero, List.getElem?_cons_succ]; rfl)) (fun K hK => ?_) AllReadyH.nil)
      go_simp
      refine (mundo31 _ _).mono ?_; rintro e w' ⟨rfl, rfl⟩
      go_wp2_with fail
      refine hK.out _ _ ?_ (fun hHeld => ?_)
      · (try dsimp only)
        go_keep
      clear hK K
      (try simp only [Act.put, List.setIfInBounds_toArray, List.set_cons_zero, List.set_cons_succ])
      first
        | (refine wpAnyH_take (i := 11) (v := ?_) (by (simp only [List.getElem?_toArray, List.getElem?_cons_zero, List.getElem?_cons_succ]; rfl)) (by kernel_rfl) (by kernel_rfl) (by kernel_rfl) (by (intro _ _ _ h; exact h)) (Or.inl ⟨by rfl, ?_⟩) (by assumption) ?_; rotate_left; intro w hSw; (try dsimp only at hSw); go_simp; (try with_reducible rfl))
        | (refine wpAnyH_take (i := 11) (v := undef) (by (simp only [List.getElem?_toArray, List.getElem?_cons_zero, List.getElem?_cons_succ]; rfl)) (by kernel_rfl) (by kernel_rfl) (by kernel_rfl) (by (intro _ _ _ h; exact h)) (Or.inr ⟨by rfl, rfl⟩) (by assumption) ?_)
      (try simp only [Act.put, List.setIfInBounds_toArray, List.set_cons_zero, List.set_cons_succ])
      refine wpAnyH_done (by kernel_rfl) ?_ _
      go_wp2
      go_roundw
      case measure => simp [intOf]
      case rel => exact ⟨⟨_, rfl, .inr (.inl ⟨rfl, Lib.hid (by rw [hy.out])⟩)⟩, ⟨e0, e1, e2, e3, e4, e5, e6, e7, e8⟩, hb.drew⟩
    · skip
      go_wp2_with fail
      refine wp_region_held_drew (S := fun w' => w'.cell? ⟨w1.heap.size, 0, none⟩ = some (.int .i64 30) ∧ w'.cell? ⟨w1.heap.size, 1, none⟩ = some (.int .u64 13787848793156543929) ∧ w'.cell? ⟨w1.heap.size, 2, none⟩ = some (.int .u64 10871156337175269513) ∧ w'.cell? ⟨w1.heap.size, 3, none⟩ = some (.int .i64 27) ∧ w'.cell? ⟨w1.heap.size, 4, none⟩ = some (.int .u64 10723151780598845931) ∧ w'.cell? ⟨w1.heap.size, 5, none⟩ = some (.int .u64 3573116690164977347) ∧ w'.cell? ⟨w1.heap.size, 6, none⟩ = some (.int .i64 31) ∧ w'.cell? ⟨w1.heap.size, 7, none⟩ = some (.int .u64 1) ∧ w'.cell? ⟨w1.heap.size, 8, none⟩ = some (.int .u64 1)) (by kernel_rfl) (by (try dsimp only); go_keep) (fun hHeld => ?_)
      first
        | (refine wpAnyH_take (i := 0) (v := ?_) (by (simp only [List.getElem?_toArray, List.getElem?_cons_zero, List.getElem?_cons_succ]; rfl)) (by kernel_rfl) (by kernel_rfl) (by kernel_rfl) (by (intro _ _ _ h; exact h)) (Or.inl ⟨by rfl, ?_⟩) (by assumption) ?_; rotate_left; intro w hSw; (try dsimp only at hSw); go_simp; (try with_reducible rfl))
        | (refine wpAnyH_take (i := 0) (v := undef) (by (simp only [List.getElem?_toArray, List.getElem?_cons_zero, List.getElem?_cons_succ]; rfl)) (by kernel_rfl) (by kernel_rfl) (by kernel_rfl) (by (intro _ _ _ h; exact h)) (Or.inr ⟨by rfl, rfl⟩) (by assumption) ?_)
      (try simp only [Act.put, List.setIfInBounds_toArray, List.set_cons_zero, List.set_cons_succ])
      first
        | (refine wpAnyH_take (i := 1) (v := ?_) (by (simp only [List.getElem?_toArray, List.getElem?_cons_zero, List.getElem?_cons_succ]; rfl)) (by kernel_rfl) (by kernel_rfl) (by kernel_rfl) (by (intro _ _ _ h; exact h)) (Or.inl ⟨by rfl, ?_⟩) (by assumption) ?_; rotate_left; intro w hSw; (try dsimp only at hSw); go_simp; (try with_reducible rfl))
        | (refine wpAnyH_take (i := 1) (v := undef) (by (simp only [List.getElem?_toArray, List.getElem?_cons_zero, List.getElem?_cons_succ]; rfl)) (by kernel_rfl) (by kernel_rfl) (by kernel_rfl) (by (intro _ _ _ h; exact h)) (Or.inr ⟨by rfl, rfl⟩) (by assumption) ?_)
      (try simp only [Act.put, List.setIfInBounds_toArray, List.set_cons_zero, List.set_cons_succ])
      first
        | (refine wpAnyH_take (i := 2) (v := ?_) (by (simp only [List.getElem?_toArray, List.getElem?_cons_zero, List.getElem?_cons_succ]; rfl)) (by kernel_rfl) (by kernel_rfl) (by kernel_rfl) (by (intro _ _ _ h; exact h)) (Or.inl ⟨by rfl, ?_⟩) (by assumption) ?_; rotate_left; intro w hSw; (try dsimp only at hSw); go_simp; (try with_reducible rfl))
        | (refine wpAnyH_take (i := 2) (v := undef) (by (simp only [List.getElem?_toArray, List.getElem?_cons_zero, List.getElem?_cons_succ]; rfl)) (by kernel_rfl) (by kernel_rfl) (by kernel_rfl) (by (intro _ _ _ h; exact h)) (Or.inr ⟨by rfl, rfl⟩) (by assumption) ?_)
      (try simp only [Act.put, List.setIfInBounds_toArray, List.set_cons_zero, List.set_cons_succ])
      first
        | (refine wpAnyH_take (i := 3) (v := ?_) (by (simp only [List.getElem?_toArray, List.getElem?_cons_zero, List.getElem?_cons_succ]; rfl)) (by kernel_rfl) (by kernel_rfl) (by kernel_rfl) (by (intro _ _ _ h; exact h)) (Or.inl ⟨by rfl, ?_⟩) (by assumption) ?_; rotate_left; intro w hSw; (try dsimp only at hSw); go_simp; (try with_reducible rfl))
        | (refine wpAnyH_take (i := 3) (v := undef) (by (simp only [List.getElem?_toArray, List.getElem?_cons_zero, List.getElem?_cons_succ]; rfl)) (by kernel_rfl) (by kernel_rfl) (by kernel_rfl) (by (intro _ _ _ h; exact h)) (Or.inr ⟨by rfl, rfl⟩) (by assumption) ?_)
      (try simp only [Act.put, List.setIfInBounds_toArray, List.set_cons_zero, List.set_cons_succ])
      first
        | (refine wpAnyH_take (i := 4) (v := ?_) (by (simp only [List.getElem?_toArray, List.getElem?_cons_zero, List.getElem?_cons_succ]; rfl)) (by kernel_rfl) (by kernel_rfl) (by kernel_rfl) (by (intro _ _ _ h; exact h)) (Or.inl ⟨by rfl, ?_⟩) (by assumption) ?_; rotate_left; intro w hSw; (try dsimp only at hSw); go_simp; (try with_reducible rfl))
        | (refine wpAnyH_take (i := 4) (v := undef) (by (simp only [List.getElem?_toArray, List.getElem?_cons_zero, List.getElem?_cons_succ]; rfl)) (by kernel_rfl) (by kernel_rfl) (by kernel_rfl) (by (intro _ _ _ h; exact h)) (Or.inr ⟨by rfl, rfl⟩) (by assumption) ?_)
      (try simp only [Act.put, List.setIfInBounds_toArray, List.set_cons_zero, List.set_cons_succ])
      first
        | (refine wpAnyH_take (i := 5) (v := ?_) (by (simp only [List.getElem?_toArray, List.getElem?_cons_zero, List.getElem?_cons_succ]; rfl)) (by kernel_rfl) (by kernel_rfl) (by kernel_rfl) (by (intro _ _ _ h; exact h)) (Or.inl ⟨by rfl, ?_⟩) (by assumption) ?_; rotate_left; intro w hSw; (try dsimp only at hSw); go_simp; (try with_reducible rfl))
        | (refine wpAnyH_take (i := 5) (v := undef) (by (simp only [List.getElem?_toArray, List.getElem?_cons_zero, List.getElem?_cons_succ]; rfl)) (by kernel_rfl) (by kernel_rfl) (by kernel_rfl) (by (intro _ _ _ h; exact h)) (Or.inr ⟨by rfl, rfl⟩) (by assumption) ?_)
      (try simp only [Act.put, List.setIfInBounds_toArray, List.set_cons_zero, List.set_cons_succ])
      first
        | (refine wpAnyH_take (i := 6) (v := ?_) (by (simp only [List.getElem?_toArray, List.getElem?_cons_zero, List.getElem?_cons_succ]; rfl)) (by kernel_rfl) (by kernel_rfl) (by kernel_rfl) (by (intro _ _ _ h; exact h)) (Or.inl ⟨by rfl, ?_⟩) (by assumption) ?_; rotate_left; intro w hSw; (try dsimp only at hSw); go_simp; (try with_reducible rfl))
        | (refine wpAnyH_take (i := 6) (v := undef) (by (simp only [List.getElem?_toArray, List.getElem?_cons_zero, List.getElem?_cons_succ]; rfl)) (by kernel_rfl) (by kernel_rfl) (by kernel_rfl) (by (intro _ _ _ h; exact h)) (Or.inr ⟨by rfl, rfl⟩) (by assumption) ?_)
      (try simp only [Act.put, List.setIfInBounds_toArray, List.set_cons_zero, List.set_cons_succ])
      first
        | (refine wpAnyH_take (i := 7) (v := ?_) (by (simp only [List.getElem?_toArray, List.getElem?_cons_zero, List.getElem?_cons_succ]; rfl)) (by kernel_rfl) (by kernel_rfl) (by kernel_rfl) (by (intro _ _ _ h; exact h)) (Or.inl ⟨by rfl, ?_⟩) (by assumption) ?_; rotate_left; intro w hSw; (try dsimp only at hSw); go_simp; (try with_reducible rfl))
        | (refine wpAnyH_take (i := 7) (v := undef) (by (simp only [List.getElem?_toArray, List.getElem?_cons_zero, List.getElem?_cons_succ]; rfl)) (by kernel_rfl) (by kernel_rfl) (by kernel_rfl) (by (intro _ _ _ h; exact h)) (Or.inr ⟨by rfl, rfl⟩) (by assumption) ?_)
      (try simp only [Act.put, List.setIfInBounds_toArray, List.set_cons_zero, List.set_cons_succ])
      first
        | (refine wpAnyH_take (i := 8) (v := ?_) (by (simp only [List.getElem?_toArray, List.getElem?_cons_zero, List.getElem?_cons_succ]; rfl)) (by kernel_rfl) (by kernel_rfl) (by kernel_rfl) (by (intro _ _ _ h; exact h)) (Or.inl ⟨by rfl, ?_⟩) (by assumption) ?_; rotate_left; intro w hSw; (try dsimp only at hSw); go_simp; (try with_reducible rfl))
        | (refine wpAnyH_take (i := 8) (v := undef) (by (simp only [List.getElem?_toArray, List.getElem?_cons_zero, List.getElem?_cons_succ]; rfl)) (by kernel_rfl) (by kernel_rfl) (by kernel_rfl) (by (intro _ _ _ h; exact h)) (Or.inr ⟨by rfl, rfl⟩) (by assumption) ?_)
      (try simp only [Act.put, List.setIfInBounds_toArray, List.set_cons_zero, List.set_cons_succ])
      first
        | (refine wpAnyH_take (i := 9) (v := ?_) (by (simp only [List.getElem?_toArray, List.getElem?_cons_zero, List.getElem?_cons_succ]; rfl)) (by kernel_rfl) (by kernel_rfl) (by kernel_rfl) (by (intro _ _ _ h; exact h)) (Or.inl ⟨by rfl, ?_⟩) (by assumption) ?_; rotate_left; intro w hSw; (try dsimp only at hSw); go_simp; (try with_reducible rfl))
        | (refine wpAnyH_take (i := 9) (v := undef) (by (simp only [List.getElem?_toArray, List.getElem?_cons_zero, List.getElem?_cons_succ]; rfl)) (by kernel_rfl) (by kernel_rfl) (by kernel_rfl) (by (intro _ _ _ h; exact h)) (Or.inr ⟨by rfl, rfl⟩) (by assumption) ?_)
      (try simp only [Act.put, List.setIfInBounds_toArray, List.set_cons_zero, List.set_cons_succ])
      refine wpAnyH_ready (rs := [10]) (by kernel_rfl) (by simp) (AllReadyH.cons (by (simp only [List.getElem?_toArray, List.getElem?_cons_zero, List.getElem?_cons_succ]; rfl)) (fun K hK => ?_) AllReadyH.nil)
      go_simp
      refine (mundo27 _ _).mono ?_; rintro e w' ⟨rfl, rfl⟩
      go_wp2_with fail
      refine hK.out _ _ ?_ (fun hHeld => ?_)
      · (try dsimp only)
        go_keep
      clear hK K
      (try simp only [Act.put, List.setIfInBounds_toArray, List.set_cons_zero, List.set_cons_succ])
      first
        | (refine wpAnyH_take (i := 11) (v := ?_) (by (simp only [List.getElem?_toArray, List.getElem?_cons_zero, List.getElem?_cons_succ]; rfl)) (by kernel_rfl) (by kernel_rfl) (by kernel_rfl) (by (intro _ _ _ h; exact h)) (Or.inl ⟨by rfl, ?_⟩) (by assumption) ?_; rotate_left; intro w hSw; (try dsimp only at hSw); go_simp; (try with_reducible rfl))
        | (refine wpAnyH_take (i := 11) (v := undef) (by (simp only [List.getElem?_toArray, List.getElem?_cons_zero, List.getElem?_cons_succ]; rfl)) (by kernel_rfl) (by kernel_rfl) (by kernel_rfl) (by (intro _ _ _ h; exact h)) (Or.inr ⟨by rfl, rfl⟩) (by assumption) ?_)
      (try simp only [Act.put, List.setIfInBounds_toArray, List.set_cons_zero, List.set_cons_succ])
      refine wpAnyH_done (by kernel_rfl) ?_ _
      go_wp2
      go_roundw
      case measure => simp [intOf]
      case rel => exact ⟨⟨_, rfl, .inr (.inr (.inl ⟨rfl, Lib.hid (by rw [hy.out])⟩))⟩, ⟨e0, e1, e2, e3, e4, e5, e6, e7, e8⟩, hb.drew⟩
    · skip
      go_wp2_with fail
      refine wp_region_held_drew (S := fun w' => w'.cell? ⟨w1.heap.size, 0, none⟩ = some (.int .i64 30) ∧ w'.cell? ⟨w1.heap.size, 1, none⟩ = some (.int .u64 13787848793156543929) ∧ w'.cell? ⟨w1.heap.size, 2, none⟩ = some (.int .u64 10871156337175269513) ∧ w'.cell? ⟨w1.heap.size, 3, none⟩ = some (.int .i64 27) ∧ w'.cell? ⟨w1.heap.size, 4, none⟩ = some (.int .u64 10723151780598845931) ∧ w'.cell? ⟨w1.heap.size, 5, none⟩ = some (.int .u64 3573116690164977347) ∧ w'.cell? ⟨w1.heap.size, 6, none⟩ = some (.int .i64 31) ∧ w'.cell? ⟨w1.heap.size, 7, none⟩ = some (.int .u64 1) ∧ w'.cell? ⟨w1.heap.size, 8, none⟩ = some (.int .u64 1)) (by kernel_rfl) (by (try dsimp only); go_keep) (fun hHeld => ?_)
      first
        | (refine wpAnyH_take (i := 0) (v := ?_) (by (simp only [List.getElem?_toArray, List.getElem?_cons_zero, List.getElem?_cons_succ]; rfl)) (by kernel_rfl) (by kernel_rfl) (by kernel_rfl) (by (intro _ _ _ h; exact h)) (Or.inl ⟨by rfl, ?_⟩) (by assumption) ?_; rotate_left; intro w hSw; (try dsimp only at hSw); go_simp; (try with_reducible rfl))
        | (refine wpAnyH_take (i := 0) (v := undef) (by (simp only [List.getElem?_toArray, List.getElem?_cons_zero, List.getElem?_cons_succ]; rfl)) (by kernel_rfl) (by kernel_rfl) (by kernel_rfl) (by (intro _ _ _ h; exact h)) (Or.inr ⟨by rfl, rfl⟩) (by assumption) ?_)
      (try simp only [Act.put, List.setIfInBounds_toArray, List.set_cons_zero, List.set_cons_succ])
      first
        | (refine wpAnyH_take (i := 1) (v := ?_) (by (simp only [List.getElem?_toArray, List.getElem?_cons_zero, List.getElem?_cons_succ]; rfl)) (by kernel_rfl) (by kernel_rfl) (by kernel_rfl) (by (intro _ _ _ h; exact h)) (Or.inl ⟨by rfl, ?_⟩) (by assumption) ?_; rotate_left; intro w hSw; (try dsimp only at hSw); go_simp; (try with_reducible rfl))
        | (refine wpAnyH_take (i := 1) (v := undef) (by (simp only [List.getElem?_toArray, List.getElem?_cons_zero, List.getElem?_cons_succ]; rfl)) (by kernel_rfl) (by kernel_rfl) (by kernel_rfl) (by (intro _ _ _ h; exact h)) (Or.inr ⟨by rfl, rfl⟩) (by assumption) ?_)
      (try simp only [Act.put, List.setIfInBounds_toArray, List.set_cons_zero, List.set_cons_succ])
      first
        | (refine wpAnyH_take (i := 2) (v := ?_) (by (simp only [List.getElem?_toArray, List.getElem?_cons_zero, List.getElem?_cons_succ]; rfl)) (by kernel_rfl) (by kernel_rfl) (by kernel_rfl) (by (intro _ _ _ h; exact h)) (Or.inl ⟨by rfl, ?_⟩) (by assumption) ?_; rotate_left; intro w hSw; (try dsimp only at hSw); go_simp; (try with_reducible rfl))
        | (refine wpAnyH_take (i := 2) (v := undef) (by (simp only [List.getElem?_toArray, List.getElem?_cons_zero, List.getElem?_cons_succ]; rfl)) (by kernel_rfl) (by kernel_rfl) (by kernel_rfl) (by (intro _ _ _ h; exact h)) (Or.inr ⟨by rfl, rfl⟩) (by assumption) ?_)
      (try simp only [Act.put, List.setIfInBounds_toArray, List.set_cons_zero, List.set_cons_succ])
      first
        | (refine wpAnyH_take (i := 3) (v := ?_) (by (simp only [List.getElem?_toArray, List.getElem?_cons_zero, List.getElem?_cons_succ]; rfl)) (by kernel_rfl) (by kernel_rfl) (by kernel_rfl) (by (intro _ _ _ h; exact h)) (Or.inl ⟨by rfl, ?_⟩) (by assumption) ?_; rotate_left; intro w hSw; (try dsimp only at hSw); go_simp; (try with_reducible rfl))
        | (refine wpAnyH_take (i := 3) (v := undef) (by (simp only [List.getElem?_toArray, List.getElem?_cons_zero, List.getElem?_cons_succ]; rfl)) (by kernel_rfl) (by kernel_rfl) (by kernel_rfl) (by (intro _ _ _ h; exact h)) (Or.inr ⟨by rfl, rfl⟩) (by assumption) ?_)
      (try simp only [Act.put, List.setIfInBounds_toArray, List.set_cons_zero, List.set_cons_succ])
      first
        | (refine wpAnyH_take (i := 4) (v := ?_) (by (simp only [List.getElem?_toArray, List.getElem?_cons_zero, List.getElem?_cons_succ]; rfl)) (by kernel_rfl) (by kernel_rfl) (by kernel_rfl) (by (intro _ _ _ h; exact h)) (Or.inl ⟨by rfl, ?_⟩) (by assumption) ?_; rotate_left; intro w hSw; (try dsimp only at hSw); go_simp; (try with_reducible rfl))
        | (refine wpAnyH_take (i := 4) (v := undef) (by (simp only [List.getElem?_toArray, List.getElem?_cons_zero, List.getElem?_cons_succ]; rfl)) (by kernel_rfl) (by kernel_rfl) (by kernel_rfl) (by (intro _ _ _ h; exact h)) (Or.inr ⟨by rfl, rfl⟩) (by assumption) ?_)
      (try simp only [Act.put, List.setIfInBounds_toArray, List.set_cons_zero, List.set_cons_succ])
      first
        | (refine wpAnyH_take (i := 5) (v := ?_) (by (simp only [List.getElem?_toArray, List.getElem?_cons_zero, List.getElem?_cons_succ]; rfl)) (by kernel_rfl) (by kernel_rfl) (by kernel_rfl) (by (intro _ _ _ h; exact h)) (Or.inl ⟨by rfl, ?_⟩) (by assumption) ?_; rotate_left; intro w hSw; (try dsimp only at hSw); go_simp; (try with_reducible rfl))
        | (refine wpAnyH_take (i := 5) (v := undef) (by (simp only [List.getElem?_toArray, List.getElem?_cons_zero, List.getElem?_cons_succ]; rfl)) (by kernel_rfl) (by kernel_rfl) (by kernel_rfl) (by (intro _ _ _ h; exact h)) (Or.inr ⟨by rfl, rfl⟩) (by assumption) ?_)
      (try simp only [Act.put, List.setIfInBounds_toArray, List.set_cons_zero, List.set_cons_succ])
      first
        | (refine wpAnyH_take (i := 6) (v := ?_) (by (simp only [List.getElem?_toArray, List.getElem?_cons_zero, List.getElem?_cons_succ]; rfl)) (by kernel_rfl) (by kernel_rfl) (by kernel_rfl) (by (intro _ _ _ h; exact h)) (Or.inl ⟨by rfl, ?_⟩) (by assumption) ?_; rotate_left; intro w hSw; (try dsimp only at hSw); go_simp; (try with_reducible rfl))
        | (refine wpAnyH_take (i := 6) (v := undef) (by (simp only [List.getElem?_toArray, List.getElem?_cons_zero, List.getElem?_cons_succ]; rfl)) (by kernel_rfl) (by kernel_rfl) (by kernel_rfl) (by (intro _ _ _ h; exact h)) (Or.inr ⟨by rfl, rfl⟩) (by assumption) ?_)
      (try simp only [Act.put, List.setIfInBounds_toArray, List.set_cons_zero, List.set_cons_succ])
      first
        | (refine wpAnyH_take (i := 7) (v := ?_) (by (simp only [List.getElem?_toArray, List.getElem?_cons_zero, List.getElem?_cons_succ]; rfl)) (by kernel_rfl) (by kernel_rfl) (by kernel_rfl) (by (intro _ _ _ h; exact h)) (Or.inl ⟨by rfl, ?_⟩) (by assumption) ?_; rotate_left; intro w hSw; (try dsimp only at hSw); go_simp; (try with_reducible rfl))
        | (refine wpAnyH_take (i := 7) (v := undef) (by (simp only [List.getElem?_toArray, List.getElem?_cons_zero, List.getElem?_cons_succ]; rfl)) (by kernel_rfl) (by kernel_rfl) (by kernel_rfl) (by (intro _ _ _ h; exact h)) (Or.inr ⟨by rfl, rfl⟩) (by assumption) ?_)
      (try simp only [Act.put, List.setIfInBounds_toArray, List.set_cons_zero, List.set_cons_succ])
      first
        | (refine wpAnyH_take (i := 8) (v := ?_) (by (simp only [List.getElem?_toArray, List.getElem?_cons_zero, List.getElem?_cons_succ]; rfl)) (by kernel_rfl) (by kernel_rfl) (by kernel_rfl) (by (intro _ _ _ h; exact h)) (Or.inl ⟨by rfl, ?_⟩) (by assumption) ?_; rotate_left; intro w hSw; (try dsimp only at hSw); go_simp; (try with_reducible rfl))
        | (refine wpAnyH_take (i := 8) (v := undef) (by (simp only [List.getElem?_toArray, List.getElem?_cons_zero, List.getElem?_cons_succ]; rfl)) (by kernel_rfl) (by kernel_rfl) (by kernel_rfl) (by (intro _ _ _ h; exact h)) (Or.inr ⟨by rfl, rfl⟩) (by assumption) ?_)
      (try simp only [Act.put, List.setIfInBounds_toArray, List.set_cons_zero, List.set_cons_succ])
      first
        | (refine wpAnyH_take (i := 9) (v := ?_) (by (simp only [List.getElem?_toArray, List.getElem?_cons_zero, List.getElem?_cons_succ]; rfl)) (by kernel_rfl) (by kernel_rfl) (by kernel_rfl) (by (intro _ _ _ h; exact h)) (Or.inl ⟨by rfl, ?_⟩) (by assumption) ?_; rotate_left; intro w hSw; (try dsimp only at hSw); go_simp; (try with_reducible rfl))
        | (refine wpAnyH_take (i := 9) (v := undef) (by (simp only [List.getElem?_toArray, List.getElem?_cons_zero, List.getElem?_cons_succ]; rfl)) (by kernel_rfl) (by kernel_rfl) (by kernel_rfl) (by (intro _ _ _ h; exact h)) (Or.inr ⟨by rfl, rfl⟩) (by assumption) ?_)
      (try simp only [Act.put, List.setIfInBounds_toArray, List.set_cons_zero, List.set_cons_succ])
      refine wpAnyH_ready (rs := [10]) (by kernel_rfl) (by simp) (AllReadyH.cons (by (simp only [List.getElem?_toArray, List.getElem?_cons_zero, List.getElem?_cons_succ]; rfl)) (fun K hK => ?_) AllReadyH.nil)
      go_simp
      refine (mundo30 _ _).mono ?_; rintro e w' ⟨rfl, rfl⟩
      go_wp2_with fail
      refine hK.out _ _ ?_ (fun hHeld => ?_)
      · (try dsimp only)
        go_keep
      clear hK K
      (try simp only [Act.put, List.setIfInBounds_toArray, List.set_cons_zero, List.set_cons_succ])
      first
        | (refine wpAnyH_take (i := 11) (v := ?_) (by (simp only [List.getElem?_toArray, List.getElem?_cons_zero, List.getElem?_cons_succ]; rfl)) (by kernel_rfl) (by kernel_rfl) (by kernel_rfl) (by (intro _ _ _ h; exact h)) (Or.inl ⟨by rfl, ?_⟩) (by assumption) ?_; rotate_left; intro w hSw; (try dsimp only at hSw); go_simp; (try with_reducible rfl))
        | (refine wpAnyH_take (i := 11) (v := undef) (by (simp only [List.getElem?_toArray, List.getElem?_cons_zero, List.getElem?_cons_succ]; rfl)) (by kernel_rfl) (by kernel_rfl) (by kernel_rfl) (by (intro _ _ _ h; exact h)) (Or.inr ⟨by rfl, rfl⟩) (by assumption) ?_)
      (try simp only [Act.put, List.setIfInBounds_toArray, List.set_cons_zero, List.set_cons_succ])
      refine wpAnyH_done (by kernel_rfl) ?_ _
      go_wp2
      go_roundw
      case measure => simp [intOf]
      case rel => exact ⟨⟨_, rfl, .inr (.inr (.inr ⟨rfl, Lib.hid (by rw [hy.out]; rfl)⟩))⟩, ⟨e0, e1, e2, e3, e4, e5, e6, e7, e8⟩, hb.drew⟩
    · go_wp2
      go_ret
      exact ⟨by rw [hy.out]; rfl, by (repeat' (first | (with_reducible exact Below.refl _ _) | (with_reducible assumption) | (with_reducible refine Below.alloc ?_ ?_ _) | (with_reducible refine Below.drew ?_) | (with_reducible refine below_drewN ?_ _) | (with_reducible refine Below.setCell ?_ ?_ _) | (with_reducible refine Below.trans ?_ (Below.mono (by assumption) ?_)) | go_size))⟩
end Go.Proofs.Ytmihcjbnieoodaa
