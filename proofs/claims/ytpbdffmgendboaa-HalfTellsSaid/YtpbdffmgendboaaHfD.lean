/- half.Word walked. -/
import Derived.Test.YtpbdffmgendboaaHfC
import Derived.Test.YtpbdffmgendboaaPhD
import Derived.Maps.OwnOps
import Derived.Deep.CutRange
namespace Go.Proofs.Ytpbdffmgendboaa
open Go Go.RowKit

namespace Hf
def blk (c : BitVec 128) : Blk := ⟨low (Wd.lo c), top (Wd.lo c), low (Wd.hi c), top (Wd.hi c)⟩
def out (s : St) : Blk := Ph.mix 10 (blk s.c) ⟨s.k0, s.k1⟩
def word (s : St) : BitVec 64 := if s.b then pair (out s).c (out s).d else pair (out s).a (out s).b
end Hf
theorem Try.zero_u64 (w : World) : (zeroValue 22).run Try.prog w = .ok (.int .u64 0) w := by kernel_rfl

set_option maxRecDepth 100000 in
set_option maxHeartbeats 4000000 in
theorem hword_c (c : BitVec 128) (k0 k1 : BitVec 32) (b : Bool) (w : World) :
    Calls Try.prog 50 #[.agg #[.int .u64 (Wd.hi c).toNat, .int .u64 (Wd.lo c).toNat, .int .u32 k0.toNat, .int .u32 k1.toNat, .bool b]] w fun e w' => e = .returned (.int .u64 (Hf.word ⟨c, k0, k1, b⟩).toNat) ∧ Below w.heap.size w w' := by
  obtain ⟨x, hx⟩ : ∃ x, Hf.blk c = x := ⟨_, rfl⟩
  obtain ⟨x0, x1, x2, x3⟩ := x
  obtain ⟨o, ho⟩ : ∃ x, Hf.out ⟨c, k0, k1, b⟩ = x := ⟨_, rfl⟩
  obtain ⟨o0, o1, o2, o3⟩ := o
  obtain ⟨p, hp⟩ : ∃ x, Hf.pair o0 o1 = x := ⟨_, rfl⟩
  obtain ⟨q, hq⟩ : ∃ x, Hf.pair o2 o3 = x := ⟨_, rfl⟩
  have V := Lib.hid (show Hf.word ⟨c, k0, k1, b⟩ = if b then q else p from by unfold Hf.word; rw [ho, ← hp, ← hq])
  have B1 : ∀ w, Calls Try.prog 54 #[.agg #[.int .u64 (Wd.hi c).toNat, .int .u64 (Wd.lo c).toNat]] w fun e w' => e = .returned (.agg #[.int .u32 (Hf.blk c).a.toNat, .int .u32 (Hf.blk c).b.toNat, .int .u32 (Hf.blk c).c.toNat, .int .u32 (Hf.blk c).d.toNat]) ∧ Below w.heap.size w w' := hblock_c c
  rw [hx] at B1
  have B2 : ∀ w, Calls Try.prog 72 #[.agg #[.int .u32 x0.toNat, .int .u32 x1.toNat, .int .u32 x2.toNat, .int .u32 x3.toNat], .agg #[.int .u32 k0.toNat, .int .u32 k1.toNat]] w fun e w' => e = .returned (.agg #[.int .u32 (Ph.mix 10 ⟨x0, x1, x2, x3⟩ ⟨k0, k1⟩).a.toNat, .int .u32 (Ph.mix 10 ⟨x0, x1, x2, x3⟩ ⟨k0, k1⟩).b.toNat, .int .u32 (Ph.mix 10 ⟨x0, x1, x2, x3⟩ ⟨k0, k1⟩).c.toNat, .int .u32 (Ph.mix 10 ⟨x0, x1, x2, x3⟩ ⟨k0, k1⟩).d.toNat]) ∧ Below w.heap.size w w' := out_c x0 x1 x2 x3 k0 k1
  rw [show Ph.mix 10 ⟨x0, x1, x2, x3⟩ ⟨k0, k1⟩ = ⟨o0, o1, o2, o3⟩ from by rw [← ho, ← hx]; rfl] at B2
  have D1 := Lib.hid (show ∀ w, Calls Try.prog 54 #[.agg #[.int .u64 (Wd.hi c).toNat, .int .u64 (Wd.lo c).toNat]] w fun e w' => e = .returned (.agg #[.int .u32 x0.toNat, .int .u32 x1.toNat, .int .u32 x2.toNat, .int .u32 x3.toNat]) ∧ Below w.heap.size w w' from by intro w; exact B1 w)
  have D2 := Lib.hid (show ∀ w, Calls Try.prog 72 #[.agg #[.int .u32 x0.toNat, .int .u32 x1.toNat, .int .u32 x2.toNat, .int .u32 x3.toNat], .agg #[.int .u32 k0.toNat, .int .u32 k1.toNat]] w fun e w' => e = .returned (.agg #[.int .u32 o0.toNat, .int .u32 o1.toNat, .int .u32 o2.toNat, .int .u32 o3.toNat]) ∧ Below w.heap.size w w' from by intro w; exact B2 w)
  have D3 := Lib.hid (show ∀ w, Calls Try.prog 73 #[.int .u32 o0.toNat, .int .u32 o1.toNat] w fun e w' => e = .returned (.int .u64 p.toNat) ∧ w = w' from by intro w; rw [← hp]; exact hpair_c o0 o1 w)
  have D4 := Lib.hid (show ∀ w, Calls Try.prog 73 #[.int .u32 o2.toNat, .int .u32 o3.toNat] w fun e w' => e = .returned (.int .u64 q.toNat) ∧ w = w' from by intro w; rw [← hq]; exact hpair_c o2 o3 w)
  clear hx ho hp hq B1 B2
  have hmm := @run_makeMap Try.prog
  go_enter Try.func50, Try.ntmps50
  go_upto_region 1 with fail
  go_cut [3] from 3 to 10 (fun r wx => ∃ g, r = .pointer (some ⟨g, 0, none⟩) ∧ (wx.cell? ⟨g, 0, none⟩ = some (.int .u32 o0.toNat) ∧ wx.cell? ⟨g, 1, none⟩ = some (.int .u32 o1.toNat) ∧ wx.cell? ⟨g, 2, none⟩ = some (.int .u32 o2.toNat) ∧ wx.cell? ⟨g, 3, none⟩ = some (.int .u32 o3.toNat)) ∧ (wx.cell? ⟨w.heap.size, 4, none⟩ = some (.bool b)) ∧ g < wx.heap.size ∧ w.heap.size < wx.heap.size ∧ Below w.heap.size w wx)
  case first =>
    refine wp_region_held_drew (S := (fun w' => (w'.cell? ⟨w.heap.size, 0, none⟩ = some (.int .u64 (Wd.hi c).toNat) ∧ w'.cell? ⟨w.heap.size, 1, none⟩ = some (.int .u64 (Wd.lo c).toNat) ∧ w'.cell? ⟨w.heap.size, 2, none⟩ = some (.int .u32 k0.toNat) ∧ w'.cell? ⟨w.heap.size, 3, none⟩ = some (.int .u32 k1.toNat) ∧ w'.cell? ⟨w.heap.size, 4, none⟩ = some (.bool b)))) (by kernel_rfl) (by (try dsimp only); (repeat' (first | (with_reducible assumption) | (with_reducible apply And.intro) | (with_reducible refine keep_drew ?_) | (with_reducible refine keep_alloc' (by first | omega | (simp; done) | (simp; omega)) ?_) | (with_reducible refine keep_set (by dsimp only; omega) ?_) | (go_simp; done)))) (fun hHeld => ?_)
    (refine wpAnyH_take (i := 0) (v := ?_) (by (simp only [List.getElem?_toArray, List.getElem?_cons_zero, List.getElem?_cons_succ]; rfl)) (by kernel_rfl) (by kernel_rfl) (by kernel_rfl) (by (intro _ _ _ h; exact h)) (Or.inl ⟨by rfl, ?_⟩) (by assumption) ?_; rotate_left; intro w hSw; (try dsimp only at hSw); go_simp; (try with_reducible rfl))
    (try simp only [Act.put, List.setIfInBounds_toArray, List.set_cons_zero, List.set_cons_succ])
    (refine wpAnyH_take (i := 1) (v := ?_) (by (simp only [List.getElem?_toArray, List.getElem?_cons_zero, List.getElem?_cons_succ]; rfl)) (by kernel_rfl) (by kernel_rfl) (by kernel_rfl) (by (intro _ _ _ h; exact h)) (Or.inl ⟨by rfl, ?_⟩) (by assumption) ?_; rotate_left; intro w hSw; (try dsimp only at hSw); go_simp; (try with_reducible rfl))
    (try simp only [Act.put, List.setIfInBounds_toArray, List.set_cons_zero, List.set_cons_succ])
    (refine wpAnyH_take (i := 3) (v := ?_) (by (simp only [List.getElem?_toArray, List.getElem?_cons_zero, List.getElem?_cons_succ]; rfl)) (by kernel_rfl) (by kernel_rfl) (by kernel_rfl) (by (intro _ _ _ h; exact h)) (Or.inl ⟨by rfl, ?_⟩) (by assumption) ?_; rotate_left; intro w hSw; (try dsimp only at hSw); go_simp; (try with_reducible rfl))
    (try simp only [Act.put, List.setIfInBounds_toArray, List.set_cons_zero, List.set_cons_succ])
    (refine wpAnyH_take (i := 4) (v := ?_) (by (simp only [List.getElem?_toArray, List.getElem?_cons_zero, List.getElem?_cons_succ]; rfl)) (by kernel_rfl) (by kernel_rfl) (by kernel_rfl) (by (intro _ _ _ h; exact h)) (Or.inl ⟨by rfl, ?_⟩) (by assumption) ?_; rotate_left; intro w hSw; (try dsimp only at hSw); go_simp; (try with_reducible rfl))
    (try simp only [Act.put, List.setIfInBounds_toArray, List.set_cons_zero, List.set_cons_succ])
    refine wpAnyH_ready (rs := [2, 6]) (by kernel_rfl) (by simp) (AllReadyH.cons (by (simp only [List.getElem?_toArray, List.getElem?_cons_zero, List.getElem?_cons_succ]; rfl)) (fun K hK => ?_) (AllReadyH.cons (by (simp only [List.getElem?_toArray, List.getElem?_cons_zero, List.getElem?_cons_succ]; rfl)) (fun K hK => ?_) AllReadyH.nil))
    · as_aux_lemma =>
        (try go_simp)
        refine (D1.out _).mono ?_
        rintro e wc2 ⟨rfl, hbc2⟩
        have hzc2 := hbc2.size; (try simp at hzc2)
        have kcc2w_heap_size_0 : wc2.cell? ⟨w.heap.size, 0, none⟩ = some (.int .u64 (Wd.hi c).toNat) := (hbc2.cell (p := ⟨w.heap.size, 0, none⟩) (by first | omega | (simp; done) | (simp; omega))).trans (by (first | (with_reducible assumption) | (repeat' (first | (with_reducible assumption) | (with_reducible refine keep_drew ?_) | (with_reducible refine keepf_drew ?_) | (with_reducible refine keep_alloc' (by first | omega | (simp; done) | (simp; omega)) ?_) | (with_reducible refine keepf_alloc' (by first | omega | (simp; done) | (simp; omega)) ?_) | (with_reducible refine keep_set (by dsimp only; omega) ?_) | (go_simp; done))))); have kfc2w_heap_size_0 : wc2.frozen? ⟨w.heap.size, 0, none⟩ = false := (hbc2.frozen (p := ⟨w.heap.size, 0, none⟩) (by first | omega | (simp; done) | (simp; omega))).trans (by (first | (with_reducible assumption) | (repeat' (first | (with_reducible assumption) | (with_reducible refine keep_drew ?_) | (with_reducible refine keepf_drew ?_) | (with_reducible refine keep_alloc' (by first | omega | (simp; done) | (simp; omega)) ?_) | (with_reducible refine keepf_alloc' (by first | omega | (simp; done) | (simp; omega)) ?_) | (with_reducible refine keep_set (by dsimp only; omega) ?_) | (go_simp; done))))); have kcc2w_heap_size_1 : wc2.cell? ⟨w.heap.size, 1, none⟩ = some (.int .u64 (Wd.lo c).toNat) := (hbc2.cell (p := ⟨w.heap.size, 1, none⟩) (by first | omega | (simp; done) | (simp; omega))).trans (by (first | (with_reducible assumption) | (repeat' (first | (with_reducible assumption) | (with_reducible refine keep_drew ?_) | (with_reducible refine keepf_drew ?_) | (with_reducible refine keep_alloc' (by first | omega | (simp; done) | (simp; omega)) ?_) | (with_reducible refine keepf_alloc' (by first | omega | (simp; done) | (simp; omega)) ?_) | (with_reducible refine keep_set (by dsimp only; omega) ?_) | (go_simp; done))))); have kfc2w_heap_size_1 : wc2.frozen? ⟨w.heap.size, 1, none⟩ = false := (hbc2.frozen (p := ⟨w.heap.size, 1, none⟩) (by first | omega | (simp; done) | (simp; omega))).trans (by (first | (with_reducible assumption) | (repeat' (first | (with_reducible assumption) | (with_reducible refine keep_drew ?_) | (with_reducible refine keepf_drew ?_) | (with_reducible refine keep_alloc' (by first | omega | (simp; done) | (simp; omega)) ?_) | (with_reducible refine keepf_alloc' (by first | omega | (simp; done) | (simp; omega)) ?_) | (with_reducible refine keep_set (by dsimp only; omega) ?_) | (go_simp; done))))); have kcc2w_heap_size_2 : wc2.cell? ⟨w.heap.size, 2, none⟩ = some (.int .u32 k0.toNat) := (hbc2.cell (p := ⟨w.heap.size, 2, none⟩) (by first | omega | (simp; done) | (simp; omega))).trans (by (first | (with_reducible assumption) | (repeat' (first | (with_reducible assumption) | (with_reducible refine keep_drew ?_) | (with_reducible refine keepf_drew ?_) | (with_reducible refine keep_alloc' (by first | omega | (simp; done) | (simp; omega)) ?_) | (with_reducible refine keepf_alloc' (by first | omega | (simp; done) | (simp; omega)) ?_) | (with_reducible refine keep_set (by dsimp only; omega) ?_) | (go_simp; done))))); have kfc2w_heap_size_2 : wc2.frozen? ⟨w.heap.size, 2, none⟩ = false := (hbc2.frozen (p := ⟨w.heap.size, 2, none⟩) (by first | omega | (simp; done) | (simp; omega))).trans (by (first | (with_reducible assumption) | (repeat' (first | (with_reducible assumption) | (with_reducible refine keep_drew ?_) | (with_reducible refine keepf_drew ?_) | (with_reducible refine keep_alloc' (by first | omega | (simp; done) | (simp; omega)) ?_) | (with_reducible refine keepf_alloc' (by first | omega | (simp; done) | (simp; omega)) ?_) | (with_reducible refine keep_set (by dsimp only; omega) ?_) | (go_simp; done))))); have kcc2w_heap_size_3 : wc2.cell? ⟨w.heap.size, 3, none⟩ = some (.int .u32 k1.toNat) := (hbc2.cell (p := ⟨w.heap.size, 3, none⟩) (by first | omega | (simp; done) | (simp; omega))).trans (by (first | (with_reducible assumption) | (repeat' (first | (with_reducible assumption) | (with_reducible refine keep_drew ?_) | (with_reducible refine keepf_drew ?_) | (with_reducible refine keep_alloc' (by first | omega | (simp; done) | (simp; omega)) ?_) | (with_reducible refine keepf_alloc' (by first | omega | (simp; done) | (simp; omega)) ?_) | (with_reducible refine keep_set (by dsimp only; omega) ?_) | (go_simp; done))))); have kfc2w_heap_size_3 : wc2.frozen? ⟨w.heap.size, 3, none⟩ = false := (hbc2.frozen (p := ⟨w.heap.size, 3, none⟩) (by first | omega | (simp; done) | (simp; omega))).trans (by (first | (with_reducible assumption) | (repeat' (first | (with_reducible assumption) | (with_reducible refine keep_drew ?_) | (with_reducible refine keepf_drew ?_) | (with_reducible refine keep_alloc' (by first | omega | (simp; done) | (simp; omega)) ?_) | (with_reducible refine keepf_alloc' (by first | omega | (simp; done) | (simp; omega)) ?_) | (with_reducible refine keep_set (by dsimp only; omega) ?_) | (go_simp; done))))); have kcc2w_heap_size_4 : wc2.cell? ⟨w.heap.size, 4, none⟩ = some (.bool b) := (hbc2.cell (p := ⟨w.heap.size, 4, none⟩) (by first | omega | (simp; done) | (simp; omega))).trans (by (first | (with_reducible assumption) | (repeat' (first | (with_reducible assumption) | (with_reducible refine keep_drew ?_) | (with_reducible refine keepf_drew ?_) | (with_reducible refine keep_alloc' (by first | omega | (simp; done) | (simp; omega)) ?_) | (with_reducible refine keepf_alloc' (by first | omega | (simp; done) | (simp; omega)) ?_) | (with_reducible refine keep_set (by dsimp only; omega) ?_) | (go_simp; done))))); have kfc2w_heap_size_4 : wc2.frozen? ⟨w.heap.size, 4, none⟩ = false := (hbc2.frozen (p := ⟨w.heap.size, 4, none⟩) (by first | omega | (simp; done) | (simp; omega))).trans (by (first | (with_reducible assumption) | (repeat' (first | (with_reducible assumption) | (with_reducible refine keep_drew ?_) | (with_reducible refine keepf_drew ?_) | (with_reducible refine keep_alloc' (by first | omega | (simp; done) | (simp; omega)) ?_) | (with_reducible refine keepf_alloc' (by first | omega | (simp; done) | (simp; omega)) ?_) | (with_reducible refine keep_set (by dsimp only; omega) ?_) | (go_simp; done)))))
        go_wp2_with fail
        refine hK.out _ _ ?_ (fun hNew => ?_)
        · (try dsimp only)
          (repeat' (first | (with_reducible assumption) | (with_reducible apply And.intro) | (with_reducible refine keep_drew ?_) | (with_reducible refine keep_alloc' (by first | omega | (simp; done) | (simp; omega)) ?_) | (with_reducible refine keep_set (by dsimp only; omega) ?_) | (go_simp; done)))
        clear hK K hHeld
        revert hNew; intro hHeld
        (try simp only [Act.put, List.setIfInBounds_toArray, List.set_cons_zero, List.set_cons_succ])
        refine wpAnyH_ready (rs := [5, 6]) (by kernel_rfl) (by simp) (AllReadyH.cons (by (simp only [List.getElem?_toArray, List.getElem?_cons_zero, List.getElem?_cons_succ]; rfl)) (fun K hK => ?_) (AllReadyH.cons (by (simp only [List.getElem?_toArray, List.getElem?_cons_zero, List.getElem?_cons_succ]; rfl)) (fun K hK => ?_) AllReadyH.nil))
        · as_aux_lemma =>
            (try go_simp)
            refine (D2.out _).mono ?_
            rintro e wc5 ⟨rfl, hbc5⟩
            have hzc5 := hbc5.size; (try simp at hzc5)
            have kcc5w_heap_size_0 : wc5.cell? ⟨w.heap.size, 0, none⟩ = some (.int .u64 (Wd.hi c).toNat) := (hbc5.cell (p := ⟨w.heap.size, 0, none⟩) (by first | omega | (simp; done) | (simp; omega))).trans (by (first | (with_reducible assumption) | (repeat' (first | (with_reducible assumption) | (with_reducible refine keep_drew ?_) | (with_reducible refine keepf_drew ?_) | (with_reducible refine keep_alloc' (by first | omega | (simp; done) | (simp; omega)) ?_) | (with_reducible refine keepf_alloc' (by first | omega | (simp; done) | (simp; omega)) ?_) | (with_reducible refine keep_set (by dsimp only; omega) ?_) | (go_simp; done))))); have kfc5w_heap_size_0 : wc5.frozen? ⟨w.heap.size, 0, none⟩ = false := (hbc5.frozen (p := ⟨w.heap.size, 0, none⟩) (by first | omega | (simp; done) | (simp; omega))).trans (by (first | (with_reducible assumption) | (repeat' (first | (with_reducible assumption) | (with_reducible refine keep_drew ?_) | (with_reducible refine keepf_drew ?_) | (with_reducible refine keep_alloc' (by first | omega | (simp; done) | (simp; omega)) ?_) | (with_reducible refine keepf_alloc' (by first | omega | (simp; done) | (simp; omega)) ?_) | (with_reducible refine keep_set (by dsimp only; omega) ?_) | (go_simp; done))))); have kcc5w_heap_size_1 : wc5.cell? ⟨w.heap.size, 1, none⟩ = some (.int .u64 (Wd.lo c).toNat) := (hbc5.cell (p := ⟨w.heap.size, 1, none⟩) (by first | omega | (simp; done) | (simp; omega))).trans (by (first | (with_reducible assumption) | (repeat' (first | (with_reducible assumption) | (with_reducible refine keep_drew ?_) | (with_reducible refine keepf_drew ?_) | (with_reducible refine keep_alloc' (by first | omega | (simp; done) | (simp; omega)) ?_) | (with_reducible refine keepf_alloc' (by first | omega | (simp; done) | (simp; omega)) ?_) | (with_reducible refine keep_set (by dsimp only; omega) ?_) | (go_simp; done))))); have kfc5w_heap_size_1 : wc5.frozen? ⟨w.heap.size, 1, none⟩ = false := (hbc5.frozen (p := ⟨w.heap.size, 1, none⟩) (by first | omega | (simp; done) | (simp; omega))).trans (by (first | (with_reducible assumption) | (repeat' (first | (with_reducible assumption) | (with_reducible refine keep_drew ?_) | (with_reducible refine keepf_drew ?_) | (with_reducible refine keep_alloc' (by first | omega | (simp; done) | (simp; omega)) ?_) | (with_reducible refine keepf_alloc' (by first | omega | (simp; done) | (simp; omega)) ?_) | (with_reducible refine keep_set (by dsimp only; omega) ?_) | (go_simp; done))))); have kcc5w_heap_size_2 : wc5.cell? ⟨w.heap.size, 2, none⟩ = some (.int .u32 k0.toNat) := (hbc5.cell (p := ⟨w.heap.size, 2, none⟩) (by first | omega | (simp; done) | (simp; omega))).trans (by (first | (with_reducible assumption) | (repeat' (first | (with_reducible assumption) | (with_reducible refine keep_drew ?_) | (with_reducible refine keepf_drew ?_) | (with_reducible refine keep_alloc' (by first | omega | (simp; done) | (simp; omega)) ?_) | (with_reducible refine keepf_alloc' (by first | omega | (simp; done) | (simp; omega)) ?_) | (with_reducible refine keep_set (by dsimp only; omega) ?_) | (go_simp; done))))); have kfc5w_heap_size_2 : wc5.frozen? ⟨w.heap.size, 2, none⟩ = false := (hbc5.frozen (p := ⟨w.heap.size, 2, none⟩) (by first | omega | (simp; done) | (simp; omega))).trans (by (first | (with_reducible assumption) | (repeat' (first | (with_reducible assumption) | (with_reducible refine keep_drew ?_) | (with_reducible refine keepf_drew ?_) | (with_reducible refine keep_alloc' (by first | omega | (simp; done) | (simp; omega)) ?_) | (with_reducible refine keepf_alloc' (by first | omega | (simp; done) | (simp; omega)) ?_) | (with_reducible refine keep_set (by dsimp only; omega) ?_) | (go_simp; done))))); have kcc5w_heap_size_3 : wc5.cell? ⟨w.heap.size, 3, none⟩ = some (.int .u32 k1.toNat) := (hbc5.cell (p := ⟨w.heap.size, 3, none⟩) (by first | omega | (simp; done) | (simp; omega))).trans (by (first | (with_reducible assumption) | (repeat' (first | (with_reducible assumption) | (with_reducible refine keep_drew ?_) | (with_reducible refine keepf_drew ?_) | (with_reducible refine keep_alloc' (by first | omega | (simp; done) | (simp; omega)) ?_) | (with_reducible refine keepf_alloc' (by first | omega | (simp; done) | (simp; omega)) ?_) | (with_reducible refine keep_set (by dsimp only; omega) ?_) | (go_simp; done))))); have kfc5w_heap_size_3 : wc5.frozen? ⟨w.heap.size, 3, none⟩ = false := (hbc5.frozen (p := ⟨w.heap.size, 3, none⟩) (by first | omega | (simp; done) | (simp; omega))).trans (by (first | (with_reducible assumption) | (repeat' (first | (with_reducible assumption) | (with_reducible refine keep_drew ?_) | (with_reducible refine keepf_drew ?_) | (with_reducible refine keep_alloc' (by first | omega | (simp; done) | (simp; omega)) ?_) | (with_reducible refine keepf_alloc' (by first | omega | (simp; done) | (simp; omega)) ?_) | (with_reducible refine keep_set (by dsimp only; omega) ?_) | (go_simp; done))))); have kcc5w_heap_size_4 : wc5.cell? ⟨w.heap.size, 4, none⟩ = some (.bool b) := (hbc5.cell (p := ⟨w.heap.size, 4, none⟩) (by first | omega | (simp; done) | (simp; omega))).trans (by (first | (with_reducible assumption) | (repeat' (first | (with_reducible assumption) | (with_reducible refine keep_drew ?_) | (with_reducible refine keepf_drew ?_) | (with_reducible refine keep_alloc' (by first | omega | (simp; done) | (simp; omega)) ?_) | (with_reducible refine keepf_alloc' (by first | omega | (simp; done) | (simp; omega)) ?_) | (with_reducible refine keep_set (by dsimp only; omega) ?_) | (go_simp; done))))); have kfc5w_heap_size_4 : wc5.frozen? ⟨w.heap.size, 4, none⟩ = false := (hbc5.frozen (p := ⟨w.heap.size, 4, none⟩) (by first | omega | (simp; done) | (simp; omega))).trans (by (first | (with_reducible assumption) | (repeat' (first | (with_reducible assumption) | (with_reducible refine keep_drew ?_) | (with_reducible refine keepf_drew ?_) | (with_reducible refine keep_alloc' (by first | omega | (simp; done) | (simp; omega)) ?_) | (with_reducible refine keepf_alloc' (by first | omega | (simp; done) | (simp; omega)) ?_) | (with_reducible refine keep_set (by dsimp only; omega) ?_) | (go_simp; done)))))
            clear kcc2w_heap_size_0 kfc2w_heap_size_0 kcc2w_heap_size_1 kfc2w_heap_size_1 kcc2w_heap_size_2 kfc2w_heap_size_2 kcc2w_heap_size_3 kfc2w_heap_size_3 kcc2w_heap_size_4 kfc2w_heap_size_4
            go_wp2_with fail
            refine hK.out _ _ ?_ (fun hNew => ?_)
            · (try dsimp only)
              (repeat' (first | (with_reducible assumption) | (with_reducible apply And.intro) | (with_reducible refine keep_drew ?_) | (with_reducible refine keep_alloc' (by first | omega | (simp; done) | (simp; omega)) ?_) | (with_reducible refine keep_set (by dsimp only; omega) ?_) | (go_simp; done)))
            clear hK K hHeld
            revert hNew; intro hHeld
            (try simp only [Act.put, List.setIfInBounds_toArray, List.set_cons_zero, List.set_cons_succ])
            refine wpAnyH_ready (rs := [6]) (by kernel_rfl) (by simp) (AllReadyH.cons (by (simp only [List.getElem?_toArray, List.getElem?_cons_zero, List.getElem?_cons_succ]; rfl)) (fun K hK => ?_) AllReadyH.nil)
            (try go_simp)
            refine hK.out _ _ ?_ (fun hNew => ?_)
            · (try dsimp only)
              (repeat' (first | (with_reducible assumption) | (with_reducible apply And.intro) | (with_reducible refine keep_drew ?_) | (with_reducible refine keep_alloc' (by first | omega | (simp; done) | (simp; omega)) ?_) | (with_reducible refine keep_set (by dsimp only; omega) ?_) | (go_simp; done)))
            clear hK K hHeld
            revert hNew; intro hHeld
            (try simp only [Act.put, List.setIfInBounds_toArray, List.set_cons_zero, List.set_cons_succ])
            refine wpAnyH_ready (rs := [7]) (by kernel_rfl) (by simp) (AllReadyH.cons (by (simp only [List.getElem?_toArray, List.getElem?_cons_zero, List.getElem?_cons_succ]; rfl)) (fun K hK => ?_) AllReadyH.nil)
            (try go_simp)
            refine hK.out _ _ ?_ (fun hNew => ?_)
            · (try dsimp only)
              (repeat' (first | (with_reducible assumption) | (with_reducible apply And.intro) | (with_reducible refine keep_drew ?_) | (with_reducible refine keep_alloc' (by first | omega | (simp; done) | (simp; omega)) ?_) | (with_reducible refine keep_set (by dsimp only; omega) ?_) | (go_simp; done)))
            clear hK K hHeld
            revert hNew; intro hHeld
            (try simp only [Act.put, List.setIfInBounds_toArray, List.set_cons_zero, List.set_cons_succ])
            refine wpAnyH_done (by kernel_rfl) ?_ _
            go_wp2_with fail
            go_meet
            case rel => exact ⟨_, rfl, ⟨by go_simp, by go_simp, by go_simp, by go_simp⟩, by go_simp, (by first | omega | (simp; done) | (simp; omega)), (by first | omega | (simp; done) | (simp; omega)), by (repeat' (first | (with_reducible exact Below.refl _ _) | (with_reducible assumption) | (with_reducible refine Below.alloc ?_ ?_ _) | (with_reducible refine Below.drew ?_) | (with_reducible refine below_drewN ?_ _) | (with_reducible refine Below.setCell ?_ ?_ _) | (with_reducible refine Below.trans ?_ (Below.mono (by assumption) ?_)) | go_size))⟩
        · as_aux_lemma =>
            (try go_simp)
            refine hK.out _ _ ?_ (fun hNew => ?_)
            · (try dsimp only)
              (repeat' (first | (with_reducible assumption) | (with_reducible apply And.intro) | (with_reducible refine keep_drew ?_) | (with_reducible refine keep_alloc' (by first | omega | (simp; done) | (simp; omega)) ?_) | (with_reducible refine keep_set (by dsimp only; omega) ?_) | (go_simp; done)))
            clear hK K hHeld
            revert hNew; intro hHeld
            (try simp only [Act.put, List.setIfInBounds_toArray, List.set_cons_zero, List.set_cons_succ])
            refine wpAnyH_ready (rs := [5]) (by kernel_rfl) (by simp) (AllReadyH.cons (by (simp only [List.getElem?_toArray, List.getElem?_cons_zero, List.getElem?_cons_succ]; rfl)) (fun K hK => ?_) AllReadyH.nil)
            (try go_simp)
            refine (D2.out _).mono ?_
            rintro e wc5 ⟨rfl, hbc5⟩
            have hzc5 := hbc5.size; (try simp at hzc5)
            have kcc5w_heap_size_0 : wc5.cell? ⟨w.heap.size, 0, none⟩ = some (.int .u64 (Wd.hi c).toNat) := (hbc5.cell (p := ⟨w.heap.size, 0, none⟩) (by first | omega | (simp; done) | (simp; omega))).trans (by (first | (with_reducible assumption) | (repeat' (first | (with_reducible assumption) | (with_reducible refine keep_drew ?_) | (with_reducible refine keepf_drew ?_) | (with_reducible refine keep_alloc' (by first | omega | (simp; done) | (simp; omega)) ?_) | (with_reducible refine keepf_alloc' (by first | omega | (simp; done) | (simp; omega)) ?_) | (with_reducible refine keep_set (by dsimp only; omega) ?_) | (go_simp; done))))); have kfc5w_heap_size_0 : wc5.frozen? ⟨w.heap.size, 0, none⟩ = false := (hbc5.frozen (p := ⟨w.heap.size, 0, none⟩) (by first | omega | (simp; done) | (simp; omega))).trans (by (first | (with_reducible assumption) | (repeat' (first | (with_reducible assumption) | (with_reducible refine keep_drew ?_) | (with_reducible refine keepf_drew ?_) | (with_reducible refine keep_alloc' (by first | omega | (simp; done) | (simp; omega)) ?_) | (with_reducible refine keepf_alloc' (by first | omega | (simp; done) | (simp; omega)) ?_) | (with_reducible refine keep_set (by dsimp only; omega) ?_) | (go_simp; done))))); have kcc5w_heap_size_1 : wc5.cell? ⟨w.heap.size, 1, none⟩ = some (.int .u64 (Wd.lo c).toNat) := (hbc5.cell (p := ⟨w.heap.size, 1, none⟩) (by first | omega | (simp; done) | (simp; omega))).trans (by (first | (with_reducible assumption) | (repeat' (first | (with_reducible assumption) | (with_reducible refine keep_drew ?_) | (with_reducible refine keepf_drew ?_) | (with_reducible refine keep_alloc' (by first | omega | (simp; done) | (simp; omega)) ?_) | (with_reducible refine keepf_alloc' (by first | omega | (simp; done) | (simp; omega)) ?_) | (with_reducible refine keep_set (by dsimp only; omega) ?_) | (go_simp; done))))); have kfc5w_heap_size_1 : wc5.frozen? ⟨w.heap.size, 1, none⟩ = false := (hbc5.frozen (p := ⟨w.heap.size, 1, none⟩) (by first | omega | (simp; done) | (simp; omega))).trans (by (first | (with_reducible assumption) | (repeat' (first | (with_reducible assumption) | (with_reducible refine keep_drew ?_) | (with_reducible refine keepf_drew ?_) | (with_reducible refine keep_alloc' (by first | omega | (simp; done) | (simp; omega)) ?_) | (with_reducible refine keepf_alloc' (by first | omega | (simp; done) | (simp; omega)) ?_) | (with_reducible refine keep_set (by dsimp only; omega) ?_) | (go_simp; done))))); have kcc5w_heap_size_2 : wc5.cell? ⟨w.heap.size, 2, none⟩ = some (.int .u32 k0.toNat) := (hbc5.cell (p := ⟨w.heap.size, 2, none⟩) (by first | omega | (simp; done) | (simp; omega))).trans (by (first | (with_reducible assumption) | (repeat' (first | (with_reducible assumption) | (with_reducible refine keep_drew ?_) | (with_reducible refine keepf_drew ?_) | (with_reducible refine keep_alloc' (by first | omega | (simp; done) | (simp; omega)) ?_) | (with_reducible refine keepf_alloc' (by first | omega | (simp; done) | (simp; omega)) ?_) | (with_reducible refine keep_set (by dsimp only; omega) ?_) | (go_simp; done))))); have kfc5w_heap_size_2 : wc5.frozen? ⟨w.heap.size, 2, none⟩ = false := (hbc5.frozen (p := ⟨w.heap.size, 2, none⟩) (by first | omega | (simp; done) | (simp; omega))).trans (by (first | (with_reducible assumption) | (repeat' (first | (with_reducible assumption) | (with_reducible refine keep_drew ?_) | (with_reducible refine keepf_drew ?_) | (with_reducible refine keep_alloc' (by first | omega | (simp; done) | (simp; omega)) ?_) | (with_reducible refine keepf_alloc' (by first | omega | (simp; done) | (simp; omega)) ?_) | (with_reducible refine keep_set (by dsimp only; omega) ?_) | (go_simp; done))))); have kcc5w_heap_size_3 : wc5.cell? ⟨w.heap.size, 3, none⟩ = some (.int .u32 k1.toNat) := (hbc5.cell (p := ⟨w.heap.size, 3, none⟩) (by first | omega | (simp; done) | (simp; omega))).trans (by (first | (with_reducible assumption) | (repeat' (first | (with_reducible assumption) | (with_reducible refine keep_drew ?_) | (with_reducible refine keepf_drew ?_) | (with_reducible refine keep_alloc' (by first | omega | (simp; done) | (simp; omega)) ?_) | (with_reducible refine keepf_alloc' (by first | omega | (simp; done) | (simp; omega)) ?_) | (with_reducible refine keep_set (by dsimp only; omega) ?_) | (go_simp; done))))); have kfc5w_heap_size_3 : wc5.frozen? ⟨w.heap.size, 3, none⟩ = false := (hbc5.frozen (p := ⟨w.heap.size, 3, none⟩) (by first | omega | (simp; done) | (simp; omega))).trans (by (first | (with_reducible assumption) | (repeat' (first | (with_reducible assumption) | (with_reducible refine keep_drew ?_) | (with_reducible refine keepf_drew ?_) | (with_reducible refine keep_alloc' (by first | omega | (simp; done) | (simp; omega)) ?_) | (with_reducible refine keepf_alloc' (by first | omega | (simp; done) | (simp; omega)) ?_) | (with_reducible refine keep_set (by dsimp only; omega) ?_) | (go_simp; done))))); have kcc5w_heap_size_4 : wc5.cell? ⟨w.heap.size, 4, none⟩ = some (.bool b) := (hbc5.cell (p := ⟨w.heap.size, 4, none⟩) (by first | omega | (simp; done) | (simp; omega))).trans (by (first | (with_reducible assumption) | (repeat' (first | (with_reducible assumption) | (with_reducible refine keep_drew ?_) | (with_reducible refine keepf_drew ?_) | (with_reducible refine keep_alloc' (by first | omega | (simp; done) | (simp; omega)) ?_) | (with_reducible refine keepf_alloc' (by first | omega | (simp; done) | (simp; omega)) ?_) | (with_reducible refine keep_set (by dsimp only; omega) ?_) | (go_simp; done))))); have kfc5w_heap_size_4 : wc5.frozen? ⟨w.heap.size, 4, none⟩ = false := (hbc5.frozen (p := ⟨w.heap.size, 4, none⟩) (by first | omega | (simp; done) | (simp; omega))).trans (by (first | (with_reducible assumption) | (repeat' (first | (with_reducible assumption) | (with_reducible refine keep_drew ?_) | (with_reducible refine keepf_drew ?_) | (with_reducible refine keep_alloc' (by first | omega | (simp; done) | (simp; omega)) ?_) | (with_reducible refine keepf_alloc' (by first | omega | (simp; done) | (simp; omega)) ?_) | (with_reducible refine keep_set (by dsimp only; omega) ?_) | (go_simp; done)))))
            have kcc5wc2_heap_size_0 : wc5.cell? ⟨wc2.heap.size, 0, none⟩ = some (.int .u32 0) := (hbc5.cell (p := ⟨wc2.heap.size, 0, none⟩) (by first | omega | (simp; done) | (simp; omega))).trans (by (first | (with_reducible assumption) | (repeat' (first | (with_reducible assumption) | (with_reducible refine keep_drew ?_) | (with_reducible refine keepf_drew ?_) | (with_reducible refine keep_alloc' (by first | omega | (simp; done) | (simp; omega)) ?_) | (with_reducible refine keepf_alloc' (by first | omega | (simp; done) | (simp; omega)) ?_) | (with_reducible refine keep_set (by dsimp only; omega) ?_) | (go_simp; done))))); have kfc5wc2_heap_size_0 : wc5.frozen? ⟨wc2.heap.size, 0, none⟩ = false := (hbc5.frozen (p := ⟨wc2.heap.size, 0, none⟩) (by first | omega | (simp; done) | (simp; omega))).trans (by (first | (with_reducible assumption) | (repeat' (first | (with_reducible assumption) | (with_reducible refine keep_drew ?_) | (with_reducible refine keepf_drew ?_) | (with_reducible refine keep_alloc' (by first | omega | (simp; done) | (simp; omega)) ?_) | (with_reducible refine keepf_alloc' (by first | omega | (simp; done) | (simp; omega)) ?_) | (with_reducible refine keep_set (by dsimp only; omega) ?_) | (go_simp; done))))); have kcc5wc2_heap_size_1 : wc5.cell? ⟨wc2.heap.size, 1, none⟩ = some (.int .u32 0) := (hbc5.cell (p := ⟨wc2.heap.size, 1, none⟩) (by first | omega | (simp; done) | (simp; omega))).trans (by (first | (with_reducible assumption) | (repeat' (first | (with_reducible assumption) | (with_reducible refine keep_drew ?_) | (with_reducible refine keepf_drew ?_) | (with_reducible refine keep_alloc' (by first | omega | (simp; done) | (simp; omega)) ?_) | (with_reducible refine keepf_alloc' (by first | omega | (simp; done) | (simp; omega)) ?_) | (with_reducible refine keep_set (by dsimp only; omega) ?_) | (go_simp; done))))); have kfc5wc2_heap_size_1 : wc5.frozen? ⟨wc2.heap.size, 1, none⟩ = false := (hbc5.frozen (p := ⟨wc2.heap.size, 1, none⟩) (by first | omega | (simp; done) | (simp; omega))).trans (by (first | (with_reducible assumption) | (repeat' (first | (with_reducible assumption) | (with_reducible refine keep_drew ?_) | (with_reducible refine keepf_drew ?_) | (with_reducible refine keep_alloc' (by first | omega | (simp; done) | (simp; omega)) ?_) | (with_reducible refine keepf_alloc' (by first | omega | (simp; done) | (simp; omega)) ?_) | (with_reducible refine keep_set (by dsimp only; omega) ?_) | (go_simp; done))))); have kcc5wc2_heap_size_2 : wc5.cell? ⟨wc2.heap.size, 2, none⟩ = some (.int .u32 0) := (hbc5.cell (p := ⟨wc2.heap.size, 2, none⟩) (by first | omega | (simp; done) | (simp; omega))).trans (by (first | (with_reducible assumption) | (repeat' (first | (with_reducible assumption) | (with_reducible refine keep_drew ?_) | (with_reducible refine keepf_drew ?_) | (with_reducible refine keep_alloc' (by first | omega | (simp; done) | (simp; omega)) ?_) | (with_reducible refine keepf_alloc' (by first | omega | (simp; done) | (simp; omega)) ?_) | (with_reducible refine keep_set (by dsimp only; omega) ?_) | (go_simp; done))))); have kfc5wc2_heap_size_2 : wc5.frozen? ⟨wc2.heap.size, 2, none⟩ = false := (hbc5.frozen (p := ⟨wc2.heap.size, 2, none⟩) (by first | omega | (simp; done) | (simp; omega))).trans (by (first | (with_reducible assumption) | (repeat' (first | (with_reducible assumption) | (with_reducible refine keep_drew ?_) | (with_reducible refine keepf_drew ?_) | (with_reducible refine keep_alloc' (by first | omega | (simp; done) | (simp; omega)) ?_) | (with_reducible refine keepf_alloc' (by first | omega | (simp; done) | (simp; omega)) ?_) | (with_reducible refine keep_set (by dsimp only; omega) ?_) | (go_simp; done))))); have kcc5wc2_heap_size_3 : wc5.cell? ⟨wc2.heap.size, 3, none⟩ = some (.int .u32 0) := (hbc5.cell (p := ⟨wc2.heap.size, 3, none⟩) (by first | omega | (simp; done) | (simp; omega))).trans (by (first | (with_reducible assumption) | (repeat' (first | (with_reducible assumption) | (with_reducible refine keep_drew ?_) | (with_reducible refine keepf_drew ?_) | (with_reducible refine keep_alloc' (by first | omega | (simp; done) | (simp; omega)) ?_) | (with_reducible refine keepf_alloc' (by first | omega | (simp; done) | (simp; omega)) ?_) | (with_reducible refine keep_set (by dsimp only; omega) ?_) | (go_simp; done))))); have kfc5wc2_heap_size_3 : wc5.frozen? ⟨wc2.heap.size, 3, none⟩ = false := (hbc5.frozen (p := ⟨wc2.heap.size, 3, none⟩) (by first | omega | (simp; done) | (simp; omega))).trans (by (first | (with_reducible assumption) | (repeat' (first | (with_reducible assumption) | (with_reducible refine keep_drew ?_) | (with_reducible refine keepf_drew ?_) | (with_reducible refine keep_alloc' (by first | omega | (simp; done) | (simp; omega)) ?_) | (with_reducible refine keepf_alloc' (by first | omega | (simp; done) | (simp; omega)) ?_) | (with_reducible refine keep_set (by dsimp only; omega) ?_) | (go_simp; done)))))
            clear kcc2w_heap_size_0 kfc2w_heap_size_0 kcc2w_heap_size_1 kfc2w_heap_size_1 kcc2w_heap_size_2 kfc2w_heap_size_2 kcc2w_heap_size_3 kfc2w_heap_size_3 kcc2w_heap_size_4 kfc2w_heap_size_4
            go_wp2_with fail
            refine hK.out _ _ ?_ (fun hNew => ?_)
            · (try dsimp only)
              (repeat' (first | (with_reducible assumption) | (with_reducible apply And.intro) | (with_reducible refine keep_drew ?_) | (with_reducible refine keep_alloc' (by first | omega | (simp; done) | (simp; omega)) ?_) | (with_reducible refine keep_set (by dsimp only; omega) ?_) | (go_simp; done)))
            clear hK K hHeld
            revert hNew; intro hHeld
            (try simp only [Act.put, List.setIfInBounds_toArray, List.set_cons_zero, List.set_cons_succ])
            refine wpAnyH_ready (rs := [7]) (by kernel_rfl) (by simp) (AllReadyH.cons (by (simp only [List.getElem?_toArray, List.getElem?_cons_zero, List.getElem?_cons_succ]; rfl)) (fun K hK => ?_) AllReadyH.nil)
            (try go_simp)
            refine hK.out _ _ ?_ (fun hNew => ?_)
            · (try dsimp only)
              (repeat' (first | (with_reducible assumption) | (with_reducible apply And.intro) | (with_reducible refine keep_drew ?_) | (with_reducible refine keep_alloc' (by first | omega | (simp; done) | (simp; omega)) ?_) | (with_reducible refine keep_set (by dsimp only; omega) ?_) | (go_simp; done)))
            clear hK K hHeld
            revert hNew; intro hHeld
            (try simp only [Act.put, List.setIfInBounds_toArray, List.set_cons_zero, List.set_cons_succ])
            refine wpAnyH_done (by kernel_rfl) ?_ _
            go_wp2_with fail
            go_meet
            case rel => exact ⟨_, rfl, ⟨by go_simp, by go_simp, by go_simp, by go_simp⟩, by go_simp, (by first | omega | (simp; done) | (simp; omega)), (by first | omega | (simp; done) | (simp; omega)), by (repeat' (first | (with_reducible exact Below.refl _ _) | (with_reducible assumption) | (with_reducible refine Below.alloc ?_ ?_ _) | (with_reducible refine Below.drew ?_) | (with_reducible refine below_drewN ?_ _) | (with_reducible refine Below.setCell ?_ ?_ _) | (with_reducible refine Below.trans ?_ (Below.mono (by assumption) ?_)) | go_size))⟩
    · as_aux_lemma =>
        (try go_simp)
        refine hK.out _ _ ?_ (fun hNew => ?_)
        · (try dsimp only)
          (repeat' (first | (with_reducible assumption) | (with_reducible apply And.intro) | (with_reducible refine keep_drew ?_) | (with_reducible refine keep_alloc' (by first | omega | (simp; done) | (simp; omega)) ?_) | (with_reducible refine keep_set (by dsimp only; omega) ?_) | (go_simp; done)))
        clear hK K hHeld
        revert hNew; intro hHeld
        (try simp only [Act.put, List.setIfInBounds_toArray, List.set_cons_zero, List.set_cons_succ])
        refine wpAnyH_ready (rs := [2]) (by kernel_rfl) (by simp) (AllReadyH.cons (by (simp only [List.getElem?_toArray, List.getElem?_cons_zero, List.getElem?_cons_succ]; rfl)) (fun K hK => ?_) AllReadyH.nil)
        (try go_simp)
        refine (D1.out _).mono ?_
        rintro e wc2 ⟨rfl, hbc2⟩
        have hzc2 := hbc2.size; (try simp at hzc2)
        have kcc2w_heap_size_0 : wc2.cell? ⟨w.heap.size, 0, none⟩ = some (.int .u64 (Wd.hi c).toNat) := (hbc2.cell (p := ⟨w.heap.size, 0, none⟩) (by first | omega | (simp; done) | (simp; omega))).trans (by (first | (with_reducible assumption) | (repeat' (first | (with_reducible assumption) | (with_reducible refine keep_drew ?_) | (with_reducible refine keepf_drew ?_) | (with_reducible refine keep_alloc' (by first | omega | (simp; done) | (simp; omega)) ?_) | (with_reducible refine keepf_alloc' (by first | omega | (simp; done) | (simp; omega)) ?_) | (with_reducible refine keep_set (by dsimp only; omega) ?_) | (go_simp; done))))); have kfc2w_heap_size_0 : wc2.frozen? ⟨w.heap.size, 0, none⟩ = false := (hbc2.frozen (p := ⟨w.heap.size, 0, none⟩) (by first | omega | (simp; done) | (simp; omega))).trans (by (first | (with_reducible assumption) | (repeat' (first | (with_reducible assumption) | (with_reducible refine keep_drew ?_) | (with_reducible refine keepf_drew ?_) | (with_reducible refine keep_alloc' (by first | omega | (simp; done) | (simp; omega)) ?_) | (with_reducible refine keepf_alloc' (by first | omega | (simp; done) | (simp; omega)) ?_) | (with_reducible refine keep_set (by dsimp only; omega) ?_) | (go_simp; done))))); have kcc2w_heap_size_1 : wc2.cell? ⟨w.heap.size, 1, none⟩ = some (.int .u64 (Wd.lo c).toNat) := (hbc2.cell (p := ⟨w.heap.size, 1, none⟩) (by first | omega | (simp; done) | (simp; omega))).trans (by (first | (with_reducible assumption) | (repeat' (first | (with_reducible assumption) | (with_reducible refine keep_drew ?_) | (with_reducible refine keepf_drew ?_) | (with_reducible refine keep_alloc' (by first | omega | (simp; done) | (simp; omega)) ?_) | (with_reducible refine keepf_alloc' (by first | omega | (simp; done) | (simp; omega)) ?_) | (with_reducible refine keep_set (by dsimp only; omega) ?_) | (go_simp; done))))); have kfc2w_heap_size_1 : wc2.frozen? ⟨w.heap.size, 1, none⟩ = false := (hbc2.frozen (p := ⟨w.heap.size, 1, none⟩) (by first | omega | (simp; done) | (simp; omega))).trans (by (first | (with_reducible assumption) | (repeat' (first | (with_reducible assumption) | (with_reducible refine keep_drew ?_) | (with_reducible refine keepf_drew ?_) | (with_reducible refine keep_alloc' (by first | omega | (simp; done) | (simp; omega)) ?_) | (with_reducible refine keepf_alloc' (by first | omega | (simp; done) | (simp; omega)) ?_) | (with_reducible refine keep_set (by dsimp only; omega) ?_) | (go_simp; done))))); have kcc2w_heap_size_2 : wc2.cell? ⟨w.heap.size, 2, none⟩ = some (.int .u32 k0.toNat) := (hbc2.cell (p := ⟨w.heap.size, 2, none⟩) (by first | omega | (simp; done) | (simp; omega))).trans (by (first | (with_reducible assumption) | (repeat' (first | (with_reducible assumption) | (with_reducible refine keep_drew ?_) | (with_reducible refine keepf_drew ?_) | (with_reducible refine keep_alloc' (by first | omega | (simp; done) | (simp; omega)) ?_) | (with_reducible refine keepf_alloc' (by first | omega | (simp; done) | (simp; omega)) ?_) | (with_reducible refine keep_set (by dsimp only; omega) ?_) | (go_simp; done))))); have kfc2w_heap_size_2 : wc2.frozen? ⟨w.heap.size, 2, none⟩ = false := (hbc2.frozen (p := ⟨w.heap.size, 2, none⟩) (by first | omega | (simp; done) | (simp; omega))).trans (by (first | (with_reducible assumption) | (repeat' (first | (with_reducible assumption) | (with_reducible refine keep_drew ?_) | (with_reducible refine keepf_drew ?_) | (with_reducible refine keep_alloc' (by first | omega | (simp; done) | (simp; omega)) ?_) | (with_reducible refine keepf_alloc' (by first | omega | (simp; done) | (simp; omega)) ?_) | (with_reducible refine keep_set (by dsimp only; omega) ?_) | (go_simp; done))))); have kcc2w_heap_size_3 : wc2.cell? ⟨w.heap.size, 3, none⟩ = some (.int .u32 k1.toNat) := (hbc2.cell (p := ⟨w.heap.size, 3, none⟩) (by first | omega | (simp; done) | (simp; omega))).trans (by (first | (with_reducible assumption) | (repeat' (first | (with_reducible assumption) | (with_reducible refine keep_drew ?_) | (with_reducible refine keepf_drew ?_) | (with_reducible refine keep_alloc' (by first | omega | (simp; done) | (simp; omega)) ?_) | (with_reducible refine keepf_alloc' (by first | omega | (simp; done) | (simp; omega)) ?_) | (with_reducible refine keep_set (by dsimp only; omega) ?_) | (go_simp; done))))); have kfc2w_heap_size_3 : wc2.frozen? ⟨w.heap.size, 3, none⟩ = false := (hbc2.frozen (p := ⟨w.heap.size, 3, none⟩) (by first | omega | (simp; done) | (simp; omega))).trans (by (first | (with_reducible assumption) | (repeat' (first | (with_reducible assumption) | (with_reducible refine keep_drew ?_) | (with_reducible refine keepf_drew ?_) | (with_reducible refine keep_alloc' (by first | omega | (simp; done) | (simp; omega)) ?_) | (with_reducible refine keepf_alloc' (by first | omega | (simp; done) | (simp; omega)) ?_) | (with_reducible refine keep_set (by dsimp only; omega) ?_) | (go_simp; done))))); have kcc2w_heap_size_4 : wc2.cell? ⟨w.heap.size, 4, none⟩ = some (.bool b) := (hbc2.cell (p := ⟨w.heap.size, 4, none⟩) (by first | omega | (simp; done) | (simp; omega))).trans (by (first | (with_reducible assumption) | (repeat' (first | (with_reducible assumption) | (with_reducible refine keep_drew ?_) | (with_reducible refine keepf_drew ?_) | (with_reducible refine keep_alloc' (by first | omega | (simp; done) | (simp; omega)) ?_) | (with_reducible refine keepf_alloc' (by first | omega | (simp; done) | (simp; omega)) ?_) | (with_reducible refine keep_set (by dsimp only; omega) ?_) | (go_simp; done))))); have kfc2w_heap_size_4 : wc2.frozen? ⟨w.heap.size, 4, none⟩ = false := (hbc2.frozen (p := ⟨w.heap.size, 4, none⟩) (by first | omega | (simp; done) | (simp; omega))).trans (by (first | (with_reducible assumption) | (repeat' (first | (with_reducible assumption) | (with_reducible refine keep_drew ?_) | (with_reducible refine keepf_drew ?_) | (with_reducible refine keep_alloc' (by first | omega | (simp; done) | (simp; omega)) ?_) | (with_reducible refine keepf_alloc' (by first | omega | (simp; done) | (simp; omega)) ?_) | (with_reducible refine keep_set (by dsimp only; omega) ?_) | (go_simp; done)))))
        have kcc2w_heap_size___1_0 : wc2.cell? ⟨w.heap.size + 1, 0, none⟩ = some (.int .u32 0) := (hbc2.cell (p := ⟨w.heap.size + 1, 0, none⟩) (by first | omega | (simp; done) | (simp; omega))).trans (by (first | (with_reducible assumption) | (repeat' (first | (with_reducible assumption) | (with_reducible refine keep_drew ?_) | (with_reducible refine keepf_drew ?_) | (with_reducible refine keep_alloc' (by first | omega | (simp; done) | (simp; omega)) ?_) | (with_reducible refine keepf_alloc' (by first | omega | (simp; done) | (simp; omega)) ?_) | (with_reducible refine keep_set (by dsimp only; omega) ?_) | (go_simp; done))))); have kfc2w_heap_size___1_0 : wc2.frozen? ⟨w.heap.size + 1, 0, none⟩ = false := (hbc2.frozen (p := ⟨w.heap.size + 1, 0, none⟩) (by first | omega | (simp; done) | (simp; omega))).trans (by (first | (with_reducible assumption) | (repeat' (first | (with_reducible assumption) | (with_reducible refine keep_drew ?_) | (with_reducible refine keepf_drew ?_) | (with_reducible refine keep_alloc' (by first | omega | (simp; done) | (simp; omega)) ?_) | (with_reducible refine keepf_alloc' (by first | omega | (simp; done) | (simp; omega)) ?_) | (with_reducible refine keep_set (by dsimp only; omega) ?_) | (go_simp; done))))); have kcc2w_heap_size___1_1 : wc2.cell? ⟨w.heap.size + 1, 1, none⟩ = some (.int .u32 0) := (hbc2.cell (p := ⟨w.heap.size + 1, 1, none⟩) (by first | omega | (simp; done) | (simp; omega))).trans (by (first | (with_reducible assumption) | (repeat' (first | (with_reducible assumption) | (with_reducible refine keep_drew ?_) | (with_reducible refine keepf_drew ?_) | (with_reducible refine keep_alloc' (by first | omega | (simp; done) | (simp; omega)) ?_) | (with_reducible refine keepf_alloc' (by first | omega | (simp; done) | (simp; omega)) ?_) | (with_reducible refine keep_set (by dsimp only; omega) ?_) | (go_simp; done))))); have kfc2w_heap_size___1_1 : wc2.frozen? ⟨w.heap.size + 1, 1, none⟩ = false := (hbc2.frozen (p := ⟨w.heap.size + 1, 1, none⟩) (by first | omega | (simp; done) | (simp; omega))).trans (by (first | (with_reducible assumption) | (repeat' (first | (with_reducible assumption) | (with_reducible refine keep_drew ?_) | (with_reducible refine keepf_drew ?_) | (with_reducible refine keep_alloc' (by first | omega | (simp; done) | (simp; omega)) ?_) | (with_reducible refine keepf_alloc' (by first | omega | (simp; done) | (simp; omega)) ?_) | (with_reducible refine keep_set (by dsimp only; omega) ?_) | (go_simp; done))))); have kcc2w_heap_size___1_2 : wc2.cell? ⟨w.heap.size + 1, 2, none⟩ = some (.int .u32 0) := (hbc2.cell (p := ⟨w.heap.size + 1, 2, none⟩) (by first | omega | (simp; done) | (simp; omega))).trans (by (first | (with_reducible assumption) | (repeat' (first | (with_reducible assumption) | (with_reducible refine keep_drew ?_) | (with_reducible refine keepf_drew ?_) | (with_reducible refine keep_alloc' (by first | omega | (simp; done) | (simp; omega)) ?_) | (with_reducible refine keepf_alloc' (by first | omega | (simp; done) | (simp; omega)) ?_) | (with_reducible refine keep_set (by dsimp only; omega) ?_) | (go_simp; done))))); have kfc2w_heap_size___1_2 : wc2.frozen? ⟨w.heap.size + 1, 2, none⟩ = false := (hbc2.frozen (p := ⟨w.heap.size + 1, 2, none⟩) (by first | omega | (simp; done) | (simp; omega))).trans (by (first | (with_reducible assumption) | (repeat' (first | (with_reducible assumption) | (with_reducible refine keep_drew ?_) | (with_reducible refine keepf_drew ?_) | (with_reducible refine keep_alloc' (by first | omega | (simp; done) | (simp; omega)) ?_) | (with_reducible refine keepf_alloc' (by first | omega | (simp; done) | (simp; omega)) ?_) | (with_reducible refine keep_set (by dsimp only; omega) ?_) | (go_simp; done))))); have kcc2w_heap_size___1_3 : wc2.cell? ⟨w.heap.size + 1, 3, none⟩ = some (.int .u32 0) := (hbc2.cell (p := ⟨w.heap.size + 1, 3, none⟩) (by first | omega | (simp; done) | (simp; omega))).trans (by (first | (with_reducible assumption) | (repeat' (first | (with_reducible assumption) | (with_reducible refine keep_drew ?_) | (with_reducible refine keepf_drew ?_) | (with_reducible refine keep_alloc' (by first | omega | (simp; done) | (simp; omega)) ?_) | (with_reducible refine keepf_alloc' (by first | omega | (simp; done) | (simp; omega)) ?_) | (with_reducible refine keep_set (by dsimp only; omega) ?_) | (go_simp; done))))); have kfc2w_heap_size___1_3 : wc2.frozen? ⟨w.heap.size + 1, 3, none⟩ = false := (hbc2.frozen (p := ⟨w.heap.size + 1, 3, none⟩) (by first | omega | (simp; done) | (simp; omega))).trans (by (first | (with_reducible assumption) | (repeat' (first | (with_reducible assumption) | (with_reducible refine keep_drew ?_) | (with_reducible refine keepf_drew ?_) | (with_reducible refine keep_alloc' (by first | omega | (simp; done) | (simp; omega)) ?_) | (with_reducible refine keepf_alloc' (by first | omega | (simp; done) | (simp; omega)) ?_) | (with_reducible refine keep_set (by dsimp only; omega) ?_) | (go_simp; done)))))
        go_wp2_with fail
        refine hK.out _ _ ?_ (fun hNew => ?_)
        · (try dsimp only)
          (repeat' (first | (with_reducible assumption) | (with_reducible apply And.intro) | (with_reducible refine keep_drew ?_) | (with_reducible refine keep_alloc' (by first | omega | (simp; done) | (simp; omega)) ?_) | (with_reducible refine keep_set (by dsimp only; omega) ?_) | (go_simp; done)))
        clear hK K hHeld
        revert hNew; intro hHeld
        (try simp only [Act.put, List.setIfInBounds_toArray, List.set_cons_zero, List.set_cons_succ])
        refine wpAnyH_ready (rs := [5]) (by kernel_rfl) (by simp) (AllReadyH.cons (by (simp only [List.getElem?_toArray, List.getElem?_cons_zero, List.getElem?_cons_succ]; rfl)) (fun K hK => ?_) AllReadyH.nil)
        (try go_simp)
        refine (D2.out _).mono ?_
        rintro e wc5 ⟨rfl, hbc5⟩
        have hzc5 := hbc5.size; (try simp at hzc5)
        have kcc5w_heap_size_0 : wc5.cell? ⟨w.heap.size, 0, none⟩ = some (.int .u64 (Wd.hi c).toNat) := (hbc5.cell (p := ⟨w.heap.size, 0, none⟩) (by first | omega | (simp; done) | (simp; omega))).trans (by (first | (with_reducible assumption) | (repeat' (first | (with_reducible assumption) | (with_reducible refine keep_drew ?_) | (with_reducible refine keepf_drew ?_) | (with_reducible refine keep_alloc' (by first | omega | (simp; done) | (simp; omega)) ?_) | (with_reducible refine keepf_alloc' (by first | omega | (simp; done) | (simp; omega)) ?_) | (with_reducible refine keep_set (by dsimp only; omega) ?_) | (go_simp; done))))); have kfc5w_heap_size_0 : wc5.frozen? ⟨w.heap.size, 0, none⟩ = false := (hbc5.frozen (p := ⟨w.heap.size, 0, none⟩) (by first | omega | (simp; done) | (simp; omega))).trans (by (first | (with_reducible assumption) | (repeat' (first | (with_reducible assumption) | (with_reducible refine keep_drew ?_) | (with_reducible refine keepf_drew ?_) | (with_reducible refine keep_alloc' (by first | omega | (simp; done) | (simp; omega)) ?_) | (with_reducible refine keepf_alloc' (by first | omega | (simp; done) | (simp; omega)) ?_) | (with_reducible refine keep_set (by dsimp only; omega) ?_) | (go_simp; done))))); have kcc5w_heap_size_1 : wc5.cell? ⟨w.heap.size, 1, none⟩ = some (.int .u64 (Wd.lo c).toNat) := (hbc5.cell (p := ⟨w.heap.size, 1, none⟩) (by first | omega | (simp; done) | (simp; omega))).trans (by (first | (with_reducible assumption) | (repeat' (first | (with_reducible assumption) | (with_reducible refine keep_drew ?_) | (with_reducible refine keepf_drew ?_) | (with_reducible refine keep_alloc' (by first | omega | (simp; done) | (simp; omega)) ?_) | (with_reducible refine keepf_alloc' (by first | omega | (simp; done) | (simp; omega)) ?_) | (with_reducible refine keep_set (by dsimp only; omega) ?_) | (go_simp; done))))); have kfc5w_heap_size_1 : wc5.frozen? ⟨w.heap.size, 1, none⟩ = false := (hbc5.frozen (p := ⟨w.heap.size, 1, none⟩) (by first | omega | (simp; done) | (simp; omega))).trans (by (first | (with_reducible assumption) | (repeat' (first | (with_reducible assumption) | (with_reducible refine keep_drew ?_) | (with_reducible refine keepf_drew ?_) | (with_reducible refine keep_alloc' (by first | omega | (simp; done) | (simp; omega)) ?_) | (with_reducible refine keepf_alloc' (by first | omega | (simp; done) | (simp; omega)) ?_) | (with_reducible refine keep_set (by dsimp only; omega) ?_) | (go_simp; done))))); have kcc5w_heap_size_2 : wc5.cell? ⟨w.heap.size, 2, none⟩ = some (.int .u32 k0.toNat) := (hbc5.cell (p := ⟨w.heap.size, 2, none⟩) (by first | omega | (simp; done) | (simp; omega))).trans (by (first | (with_reducible assumption) | (repeat' (first | (with_reducible assumption) | (with_reducible refine keep_drew ?_) | (with_reducible refine keepf_drew ?_) | (with_reducible refine keep_alloc' (by first | omega | (simp; done) | (simp; omega)) ?_) | (with_reducible refine keepf_alloc' (by first | omega | (simp; done) | (simp; omega)) ?_) | (with_reducible refine keep_set (by dsimp only; omega) ?_) | (go_simp; done))))); have kfc5w_heap_size_2 : wc5.frozen? ⟨w.heap.size, 2, none⟩ = false := (hbc5.frozen (p := ⟨w.heap.size, 2, none⟩) (by first | omega | (simp; done) | (simp; omega))).trans (by (first | (with_reducible assumption) | (repeat' (first | (with_reducible assumption) | (with_reducible refine keep_drew ?_) | (with_reducible refine keepf_drew ?_) | (with_reducible refine keep_alloc' (by first | omega | (simp; done) | (simp; omega)) ?_) | (with_reducible refine keepf_alloc' (by first | omega | (simp; done) | (simp; omega)) ?_) | (with_reducible refine keep_set (by dsimp only; omega) ?_) | (go_simp; done))))); have kcc5w_heap_size_3 : wc5.cell? ⟨w.heap.size, 3, none⟩ = some (.int .u32 k1.toNat) := (hbc5.cell (p := ⟨w.heap.size, 3, none⟩) (by first | omega | (simp; done) | (simp; omega))).trans (by (first | (with_reducible assumption) | (repeat' (first | (with_reducible assumption) | (with_reducible refine keep_drew ?_) | (with_reducible refine keepf_drew ?_) | (with_reducible refine keep_alloc' (by first | omega | (simp; done) | (simp; omega)) ?_) | (with_reducible refine keepf_alloc' (by first | omega | (simp; done) | (simp; omega)) ?_) | (with_reducible refine keep_set (by dsimp only; omega) ?_) | (go_simp; done))))); have kfc5w_heap_size_3 : wc5.frozen? ⟨w.heap.size, 3, none⟩ = false := (hbc5.frozen (p := ⟨w.heap.size, 3, none⟩) (by first | omega | (simp; done) | (simp; omega))).trans (by (first | (with_reducible assumption) | (repeat' (first | (with_reducible assumption) | (with_reducible refine keep_drew ?_) | (with_reducible refine keepf_drew ?_) | (with_reducible refine keep_alloc' (by first | omega | (simp; done) | (simp; omega)) ?_) | (with_reducible refine keepf_alloc' (by first | omega | (simp; done) | (simp; omega)) ?_) | (with_reducible refine keep_set (by dsimp only; omega) ?_) | (go_simp; done))))); have kcc5w_heap_size_4 : wc5.cell? ⟨w.heap.size, 4, none⟩ = some (.bool b) := (hbc5.cell (p := ⟨w.heap.size, 4, none⟩) (by first | omega | (simp; done) | (simp; omega))).trans (by (first | (with_reducible assumption) | (repeat' (first | (with_reducible assumption) | (with_reducible refine keep_drew ?_) | (with_reducible refine keepf_drew ?_) | (with_reducible refine keep_alloc' (by first | omega | (simp; done) | (simp; omega)) ?_) | (with_reducible refine keepf_alloc' (by first | omega | (simp; done) | (simp; omega)) ?_) | (with_reducible refine keep_set (by dsimp only; omega) ?_) | (go_simp; done))))); have kfc5w_heap_size_4 : wc5.frozen? ⟨w.heap.size, 4, none⟩ = false := (hbc5.frozen (p := ⟨w.heap.size, 4, none⟩) (by first | omega | (simp; done) | (simp; omega))).trans (by (first | (with_reducible assumption) | (repeat' (first | (with_reducible assumption) | (with_reducible refine keep_drew ?_) | (with_reducible refine keepf_drew ?_) | (with_reducible refine keep_alloc' (by first | omega | (simp; done) | (simp; omega)) ?_) | (with_reducible refine keepf_alloc' (by first | omega | (simp; done) | (simp; omega)) ?_) | (with_reducible refine keep_set (by dsimp only; omega) ?_) | (go_simp; done)))))
        have kcc5w_heap_size___1_0 : wc5.cell? ⟨w.heap.size + 1, 0, none⟩ = some (.int .u32 0) := (hbc5.cell (p := ⟨w.heap.size + 1, 0, none⟩) (by first | omega | (simp; done) | (simp; omega))).trans (by (first | (with_reducible assumption) | (repeat' (first | (with_reducible assumption) | (with_reducible refine keep_drew ?_) | (with_reducible refine keepf_drew ?_) | (with_reducible refine keep_alloc' (by first | omega | (simp; done) | (simp; omega)) ?_) | (with_reducible refine keepf_alloc' (by first | omega | (simp; done) | (simp; omega)) ?_) | (with_reducible refine keep_set (by dsimp only; omega) ?_) | (go_simp; done))))); have kfc5w_heap_size___1_0 : wc5.frozen? ⟨w.heap.size + 1, 0, none⟩ = false := (hbc5.frozen (p := ⟨w.heap.size + 1, 0, none⟩) (by first | omega | (simp; done) | (simp; omega))).trans (by (first | (with_reducible assumption) | (repeat' (first | (with_reducible assumption) | (with_reducible refine keep_drew ?_) | (with_reducible refine keepf_drew ?_) | (with_reducible refine keep_alloc' (by first | omega | (simp; done) | (simp; omega)) ?_) | (with_reducible refine keepf_alloc' (by first | omega | (simp; done) | (simp; omega)) ?_) | (with_reducible refine keep_set (by dsimp only; omega) ?_) | (go_simp; done))))); have kcc5w_heap_size___1_1 : wc5.cell? ⟨w.heap.size + 1, 1, none⟩ = some (.int .u32 0) := (hbc5.cell (p := ⟨w.heap.size + 1, 1, none⟩) (by first | omega | (simp; done) | (simp; omega))).trans (by (first | (with_reducible assumption) | (repeat' (first | (with_reducible assumption) | (with_reducible refine keep_drew ?_) | (with_reducible refine keepf_drew ?_) | (with_reducible refine keep_alloc' (by first | omega | (simp; done) | (simp; omega)) ?_) | (with_reducible refine keepf_alloc' (by first | omega | (simp; done) | (simp; omega)) ?_) | (with_reducible refine keep_set (by dsimp only; omega) ?_) | (go_simp; done))))); have kfc5w_heap_size___1_1 : wc5.frozen? ⟨w.heap.size + 1, 1, none⟩ = false := (hbc5.frozen (p := ⟨w.heap.size + 1, 1, none⟩) (by first | omega | (simp; done) | (simp; omega))).trans (by (first | (with_reducible assumption) | (repeat' (first | (with_reducible assumption) | (with_reducible refine keep_drew ?_) | (with_reducible refine keepf_drew ?_) | (with_reducible refine keep_alloc' (by first | omega | (simp; done) | (simp; omega)) ?_) | (with_reducible refine keepf_alloc' (by first | omega | (simp; done) | (simp; omega)) ?_) | (with_reducible refine keep_set (by dsimp only; omega) ?_) | (go_simp; done))))); have kcc5w_heap_size___1_2 : wc5.cell? ⟨w.heap.size + 1, 2, none⟩ = some (.int .u32 0) := (hbc5.cell (p := ⟨w.heap.size + 1, 2, none⟩) (by first | omega | (simp; done) | (simp; omega))).trans (by (first | (with_reducible assumption) | (repeat' (first | (with_reducible assumption) | (with_reducible refine keep_drew ?_) | (with_reducible refine keepf_drew ?_) | (with_reducible refine keep_alloc' (by first | omega | (simp; done) | (simp; omega)) ?_) | (with_reducible refine keepf_alloc' (by first | omega | (simp; done) | (simp; omega)) ?_) | (with_reducible refine keep_set (by dsimp only; omega) ?_) | (go_simp; done))))); have kfc5w_heap_size___1_2 : wc5.frozen? ⟨w.heap.size + 1, 2, none⟩ = false := (hbc5.frozen (p := ⟨w.heap.size + 1, 2, none⟩) (by first | omega | (simp; done) | (simp; omega))).trans (by (first | (with_reducible assumption) | (repeat' (first | (with_reducible assumption) | (with_reducible refine keep_drew ?_) | (with_reducible refine keepf_drew ?_) | (with_reducible refine keep_alloc' (by first | omega | (simp; done) | (simp; omega)) ?_) | (with_reducible refine keepf_alloc' (by first | omega | (simp; done) | (simp; omega)) ?_) | (with_reducible refine keep_set (by dsimp only; omega) ?_) | (go_simp; done))))); have kcc5w_heap_size___1_3 : wc5.cell? ⟨w.heap.size + 1, 3, none⟩ = some (.int .u32 0) := (hbc5.cell (p := ⟨w.heap.size + 1, 3, none⟩) (by first | omega | (simp; done) | (simp; omega))).trans (by (first | (with_reducible assumption) | (repeat' (first | (with_reducible assumption) | (with_reducible refine keep_drew ?_) | (with_reducible refine keepf_drew ?_) | (with_reducible refine keep_alloc' (by first | omega | (simp; done) | (simp; omega)) ?_) | (with_reducible refine keepf_alloc' (by first | omega | (simp; done) | (simp; omega)) ?_) | (with_reducible refine keep_set (by dsimp only; omega) ?_) | (go_simp; done))))); have kfc5w_heap_size___1_3 : wc5.frozen? ⟨w.heap.size + 1, 3, none⟩ = false := (hbc5.frozen (p := ⟨w.heap.size + 1, 3, none⟩) (by first | omega | (simp; done) | (simp; omega))).trans (by (first | (with_reducible assumption) | (repeat' (first | (with_reducible assumption) | (with_reducible refine keep_drew ?_) | (with_reducible refine keepf_drew ?_) | (with_reducible refine keep_alloc' (by first | omega | (simp; done) | (simp; omega)) ?_) | (with_reducible refine keepf_alloc' (by first | omega | (simp; done) | (simp; omega)) ?_) | (with_reducible refine keep_set (by dsimp only; omega) ?_) | (go_simp; done)))))
        clear kcc2w_heap_size_0 kfc2w_heap_size_0 kcc2w_heap_size_1 kfc2w_heap_size_1 kcc2w_heap_size_2 kfc2w_heap_size_2 kcc2w_heap_size_3 kfc2w_heap_size_3 kcc2w_heap_size_4 kfc2w_heap_size_4 kcc2w_heap_size___1_0 kfc2w_heap_size___1_0 kcc2w_heap_size___1_1 kfc2w_heap_size___1_1 kcc2w_heap_size___1_2 kfc2w_heap_size___1_2 kcc2w_heap_size___1_3 kfc2w_heap_size___1_3
        go_wp2_with fail
        refine hK.out _ _ ?_ (fun hNew => ?_)
        · (try dsimp only)
          (repeat' (first | (with_reducible assumption) | (with_reducible apply And.intro) | (with_reducible refine keep_drew ?_) | (with_reducible refine keep_alloc' (by first | omega | (simp; done) | (simp; omega)) ?_) | (with_reducible refine keep_set (by dsimp only; omega) ?_) | (go_simp; done)))
        clear hK K hHeld
        revert hNew; intro hHeld
        (try simp only [Act.put, List.setIfInBounds_toArray, List.set_cons_zero, List.set_cons_succ])
        refine wpAnyH_ready (rs := [7]) (by kernel_rfl) (by simp) (AllReadyH.cons (by (simp only [List.getElem?_toArray, List.getElem?_cons_zero, List.getElem?_cons_succ]; rfl)) (fun K hK => ?_) AllReadyH.nil)
        (try go_simp)
        refine hK.out _ _ ?_ (fun hNew => ?_)
        · (try dsimp only)
          (repeat' (first | (with_reducible assumption) | (with_reducible apply And.intro) | (with_reducible refine keep_drew ?_) | (with_reducible refine keep_alloc' (by first | omega | (simp; done) | (simp; omega)) ?_) | (with_reducible refine keep_set (by dsimp only; omega) ?_) | (go_simp; done)))
        clear hK K hHeld
        revert hNew; intro hHeld
        (try simp only [Act.put, List.setIfInBounds_toArray, List.set_cons_zero, List.set_cons_succ])
        refine wpAnyH_done (by kernel_rfl) ?_ _
        go_wp2_with fail
        go_meet
        case rel => exact ⟨_, rfl, ⟨by go_simp, by go_simp, by go_simp, by go_simp⟩, by go_simp, (by first | omega | (simp; done) | (simp; omega)), (by first | omega | (simp; done) | (simp; omega)), by (repeat' (first | (with_reducible exact Below.refl _ _) | (with_reducible assumption) | (with_reducible refine Below.alloc ?_ ?_ _) | (with_reducible refine Below.drew ?_) | (with_reducible refine below_drewN ?_ _) | (with_reducible refine Below.setCell ?_ ?_ _) | (with_reducible refine Below.trans ?_ (Below.mono (by assumption) ?_)) | go_size))⟩
  case rest =>
    obtain ⟨g, rfl, ⟨g0, g1, g2, g3⟩, gs, hg, hz, hbc⟩ := hcut
    obtain ⟨wd, hwd⟩ : ∃ wd, wd = wc := ⟨wc, rfl⟩
    subst hwd
    clear D1 D2
    have K := Go.Maps.bool_keyed Try.underlying4
    have R0 := World.ownsMap_made (H := Unit) wd.drew Try.prog 4 (plainElem Try.prog 22)
    have wf (z : BitVec 64) : (Lit.int .u64 (z.toNat : Int)).wf = true := by
      have := z.isLt
      simp [Lit.wf, IntKind.has, IntKind.min, IntKind.max, IntKind.signed, IntKind.bits]; omega
    obtain ⟨wa1, ha1, oa1, ga1⟩ := R0.update K Try.underlying121 (by unfold maxLen; omega) (Go.Maps.keyOf_bool_mk Try.underlying4 false) (plainElem_int Try.underlying22 (wf p))
    obtain ⟨wa2, ha2, oa2, ga2⟩ := oa1.update K Try.underlying121 (by unfold maxLen; omega) (Go.Maps.keyOf_bool_mk Try.underlying4 true) (plainElem_int Try.underlying22 (wf q))
    obtain ⟨wb1, hb1, ob1, gb1⟩ := R0.update K Try.underlying121 (by unfold maxLen; omega) (Go.Maps.keyOf_bool_mk Try.underlying4 true) (plainElem_int Try.underlying22 (wf q))
    obtain ⟨wb2, hb2, ob2, gb2⟩ := ob1.update K Try.underlying121 (by unfold maxLen; omega) (Go.Maps.keyOf_bool_mk Try.underlying4 false) (plainElem_int Try.underlying22 (wf p))
    have GA := Lib.hid (gb_trans ga1 ga2)
    have GB := Lib.hid (gb_trans gb1 gb2)
    have OA := Lib.hid oa2
    have OB := Lib.hid ob2
    have HA1 := Lib.hid ga1
    have HB1 := Lib.hid gb1
    have kc : (wd.drew.alloc (.map #[] 0)).cell? ⟨g, 0, none⟩ = some (.int .u32 o0.toNat) ∧ (wd.drew.alloc (.map #[] 0)).cell? ⟨g, 1, none⟩ = some (.int .u32 o1.toNat) ∧ (wd.drew.alloc (.map #[] 0)).cell? ⟨g, 2, none⟩ = some (.int .u32 o2.toNat) ∧ (wd.drew.alloc (.map #[] 0)).cell? ⟨g, 3, none⟩ = some (.int .u32 o3.toNat) := ⟨by go_simp, by go_simp, by go_simp, by go_simp⟩
    have na : some g ≠ some wd.drew.heap.size := by intro e; cases e; exact absurd hg (Nat.lt_irrefl _)
    have ka (wx : World) (hx : (wd.drew.alloc (.map #[] 0)).grownBy wx (some wd.drew.heap.size)) : wx.cell? ⟨g, 0, none⟩ = some (.int .u32 o0.toNat) ∧ wx.cell? ⟨g, 1, none⟩ = some (.int .u32 o1.toNat) ∧ wx.cell? ⟨g, 2, none⟩ = some (.int .u32 o2.toNat) ∧ wx.cell? ⟨g, 3, none⟩ = some (.int .u32 o3.toNat) :=
      ⟨hx.cell kc.1 na, hx.cell kc.2.1 na, hx.cell kc.2.2.1 na, hx.cell kc.2.2.2 na⟩
    have sa1 := Lib.hid (ka _ ga1)
    have sa2 := Lib.hid (ka _ GA.out)
    have sb1 := Lib.hid (ka _ gb1)
    have sb2 := Lib.hid (ka _ GB.out)
    have ea1 := Lib.hid (show (Instr.mapUpdate 121 (.map (some wd.heap.size)) (.bool false) (.int .u64 p.toNat)).run Try.prog ((wd.alloc (.map #[] 0)).drew) = .ok () wa1 from ha1)
    have ea2 := Lib.hid (show (Instr.mapUpdate 121 (.map (some wd.heap.size)) (.bool true) (.int .u64 q.toNat)).run Try.prog (wa1) = .ok () wa2 from ha2)
    have eb1 := Lib.hid (show (Instr.mapUpdate 121 (.map (some wd.heap.size)) (.bool true) (.int .u64 q.toNat)).run Try.prog ((wd.alloc (.map #[] 0)).drew) = .ok () wb1 from hb1)
    have eb2 := Lib.hid (show (Instr.mapUpdate 121 (.map (some wd.heap.size)) (.bool false) (.int .u64 p.toNat)).run Try.prog (wb1) = .ok () wb2 from hb2)
    clear R0 wf oa1 oa2 ob1 ob2 ga1 ga2 gb1 gb2 ka kc na ha1 ha2 hb1 hb2
    go_upto_region 2 with fail
    go_cut [4] from 4 to 22 (fun m wx => m = .map (some wd.heap.size) ∧ (wx = wa2 ∨ wx = wb2))
    case first =>
      refine wp_region_held_drew (S := (fun w' => w'.cell? ⟨g, 0, none⟩ = some (.int .u32 o0.toNat) ∧ w'.cell? ⟨g, 1, none⟩ = some (.int .u32 o1.toNat) ∧ w'.cell? ⟨g, 2, none⟩ = some (.int .u32 o2.toNat) ∧ w'.cell? ⟨g, 3, none⟩ = some (.int .u32 o3.toNat))) (by kernel_rfl) (by (try dsimp only); (first | assumption | exact sa1.out | exact sa2.out | exact sb1.out | exact sb2.out | exact ⟨by go_simp, by go_simp, by go_simp, by go_simp⟩)) (fun hHeld => ?_)
      (refine wpAnyH_take (i := 1) (v := ?_) (by (simp only [List.getElem?_toArray, List.getElem?_cons_zero, List.getElem?_cons_succ]; rfl)) (by kernel_rfl) (by kernel_rfl) (by kernel_rfl) (by (intro _ _ _ h; exact h)) (Or.inl ⟨by rfl, ?_⟩) (by assumption) ?_; rotate_left; intro w hSw; (try dsimp only at hSw); go_simp; (try with_reducible rfl))
      (try simp only [Act.put, List.setIfInBounds_toArray, List.set_cons_zero, List.set_cons_succ])
      (refine wpAnyH_take (i := 2) (v := ?_) (by (simp only [List.getElem?_toArray, List.getElem?_cons_zero, List.getElem?_cons_succ]; rfl)) (by kernel_rfl) (by kernel_rfl) (by kernel_rfl) (by (intro _ _ _ h; exact h)) (Or.inl ⟨by rfl, ?_⟩) (by assumption) ?_; rotate_left; intro w hSw; (try dsimp only at hSw); go_simp; (try with_reducible rfl))
      (try simp only [Act.put, List.setIfInBounds_toArray, List.set_cons_zero, List.set_cons_succ])
      (refine wpAnyH_take (i := 3) (v := ?_) (by (simp only [List.getElem?_toArray, List.getElem?_cons_zero, List.getElem?_cons_succ]; rfl)) (by kernel_rfl) (by kernel_rfl) (by kernel_rfl) (by (intro _ _ _ h; exact h)) (Or.inl ⟨by rfl, ?_⟩) (by assumption) ?_; rotate_left; intro w hSw; (try dsimp only at hSw); go_simp; (try with_reducible rfl))
      (try simp only [Act.put, List.setIfInBounds_toArray, List.set_cons_zero, List.set_cons_succ])
      (refine wpAnyH_take (i := 4) (v := ?_) (by (simp only [List.getElem?_toArray, List.getElem?_cons_zero, List.getElem?_cons_succ]; rfl)) (by kernel_rfl) (by kernel_rfl) (by kernel_rfl) (by (intro _ _ _ h; exact h)) (Or.inl ⟨by rfl, ?_⟩) (by assumption) ?_; rotate_left; intro w hSw; (try dsimp only at hSw); go_simp; (try with_reducible rfl))
      (try simp only [Act.put, List.setIfInBounds_toArray, List.set_cons_zero, List.set_cons_succ])
      (refine wpAnyH_take (i := 7) (v := ?_) (by (simp only [List.getElem?_toArray, List.getElem?_cons_zero, List.getElem?_cons_succ]; rfl)) (by kernel_rfl) (by kernel_rfl) (by kernel_rfl) (by (intro _ _ _ h; exact h)) (Or.inl ⟨by rfl, ?_⟩) (by assumption) ?_; rotate_left; intro w hSw; (try dsimp only at hSw); go_simp; (try with_reducible rfl))
      (try simp only [Act.put, List.setIfInBounds_toArray, List.set_cons_zero, List.set_cons_succ])
      (refine wpAnyH_take (i := 8) (v := ?_) (by (simp only [List.getElem?_toArray, List.getElem?_cons_zero, List.getElem?_cons_succ]; rfl)) (by kernel_rfl) (by kernel_rfl) (by kernel_rfl) (by (intro _ _ _ h; exact h)) (Or.inl ⟨by rfl, ?_⟩) (by assumption) ?_; rotate_left; intro w hSw; (try dsimp only at hSw); go_simp; (try with_reducible rfl))
      (try simp only [Act.put, List.setIfInBounds_toArray, List.set_cons_zero, List.set_cons_succ])
      (refine wpAnyH_take (i := 9) (v := ?_) (by (simp only [List.getElem?_toArray, List.getElem?_cons_zero, List.getElem?_cons_succ]; rfl)) (by kernel_rfl) (by kernel_rfl) (by kernel_rfl) (by (intro _ _ _ h; exact h)) (Or.inl ⟨by rfl, ?_⟩) (by assumption) ?_; rotate_left; intro w hSw; (try dsimp only at hSw); go_simp; (try with_reducible rfl))
      (try simp only [Act.put, List.setIfInBounds_toArray, List.set_cons_zero, List.set_cons_succ])
      (refine wpAnyH_take (i := 10) (v := ?_) (by (simp only [List.getElem?_toArray, List.getElem?_cons_zero, List.getElem?_cons_succ]; rfl)) (by kernel_rfl) (by kernel_rfl) (by kernel_rfl) (by (intro _ _ _ h; exact h)) (Or.inl ⟨by rfl, ?_⟩) (by assumption) ?_; rotate_left; intro w hSw; (try dsimp only at hSw); go_simp; (try with_reducible rfl))
      (try simp only [Act.put, List.setIfInBounds_toArray, List.set_cons_zero, List.set_cons_succ])
      refine wpAnyH_ready (rs := [0, 5]) (by kernel_rfl) (by simp) (AllReadyH.cons (by (simp only [List.getElem?_toArray, List.getElem?_cons_zero, List.getElem?_cons_succ]; rfl)) (fun K hK => ?_) (AllReadyH.cons (by (simp only [List.getElem?_toArray, List.getElem?_cons_zero, List.getElem?_cons_succ]; rfl)) (fun K hK => ?_) AllReadyH.nil))
      · as_aux_lemma =>
          (try go_simp)
          refine hK.out _ _ ?_ (fun hHeld => ?_)
          · (try dsimp only)
            (first | assumption | exact sa1.out | exact sa2.out | exact sb1.out | exact sb2.out | exact ⟨by go_simp, by go_simp, by go_simp, by go_simp⟩)
          clear hK K
          (try simp only [Act.put, List.setIfInBounds_toArray, List.set_cons_zero, List.set_cons_succ])
          refine wpAnyH_ready (rs := [5]) (by kernel_rfl) (by simp) (AllReadyH.cons (by (simp only [List.getElem?_toArray, List.getElem?_cons_zero, List.getElem?_cons_succ]; rfl)) (fun K hK => ?_) AllReadyH.nil)
          (try go_simp)
          refine (D3.out _).mono ?_; rintro e w' ⟨rfl, rfl⟩
          go_wp2_with fail
          refine hK.out _ _ ?_ (fun hHeld => ?_)
          · (try dsimp only)
            (first | assumption | exact sa1.out | exact sa2.out | exact sb1.out | exact sb2.out | exact ⟨by go_simp, by go_simp, by go_simp, by go_simp⟩)
          clear hK K
          (try simp only [Act.put, List.setIfInBounds_toArray, List.set_cons_zero, List.set_cons_succ])
          refine wpAnyH_ready (rs := [6, 11]) (by kernel_rfl) (by simp) (AllReadyH.cons (by (simp only [List.getElem?_toArray, List.getElem?_cons_zero, List.getElem?_cons_succ]; rfl)) (fun K hK => ?_) (AllReadyH.cons (by (simp only [List.getElem?_toArray, List.getElem?_cons_zero, List.getElem?_cons_succ]; rfl)) (fun K hK => ?_) AllReadyH.nil))
          · as_aux_lemma =>
              (try go_simp)
              (first | simp only [ea1.out] | simp only [ea2.out] | simp only [eb1.out] | simp only [eb2.out]); (try go_simp)
              refine hK.out _ _ ?_ (fun hHeld => ?_)
              · (try dsimp only)
                (first | assumption | exact sa1.out | exact sa2.out | exact sb1.out | exact sb2.out | exact ⟨by go_simp, by go_simp, by go_simp, by go_simp⟩)
              clear hK K
              (try simp only [Act.put, List.setIfInBounds_toArray, List.set_cons_zero, List.set_cons_succ])
              refine wpAnyH_ready (rs := [11]) (by kernel_rfl) (by simp) (AllReadyH.cons (by (simp only [List.getElem?_toArray, List.getElem?_cons_zero, List.getElem?_cons_succ]; rfl)) (fun K hK => ?_) AllReadyH.nil)
              (try go_simp)
              refine (D4.out _).mono ?_; rintro e w' ⟨rfl, rfl⟩
              go_wp2_with fail
              refine hK.out _ _ ?_ (fun hHeld => ?_)
              · (try dsimp only)
                (first | assumption | exact sa1.out | exact sa2.out | exact sb1.out | exact sb2.out | exact ⟨by go_simp, by go_simp, by go_simp, by go_simp⟩)
              clear hK K
              (try simp only [Act.put, List.setIfInBounds_toArray, List.set_cons_zero, List.set_cons_succ])
              refine wpAnyH_ready (rs := [12]) (by kernel_rfl) (by simp) (AllReadyH.cons (by (simp only [List.getElem?_toArray, List.getElem?_cons_zero, List.getElem?_cons_succ]; rfl)) (fun K hK => ?_) AllReadyH.nil)
              (try go_simp)
              (first | simp only [ea1.out] | simp only [ea2.out] | simp only [eb1.out] | simp only [eb2.out]); (try go_simp)
              refine hK.out _ _ ?_ (fun hHeld => ?_)
              · (try dsimp only)
                (first | assumption | exact sa1.out | exact sa2.out | exact sb1.out | exact sb2.out | exact ⟨by go_simp, by go_simp, by go_simp, by go_simp⟩)
              clear hK K
              (try simp only [Act.put, List.setIfInBounds_toArray, List.set_cons_zero, List.set_cons_succ])
              (refine wpAnyH_take (i := 13) (v := ?_) (by (simp only [List.getElem?_toArray, List.getElem?_cons_zero, List.getElem?_cons_succ]; rfl)) (by kernel_rfl) (by kernel_rfl) (by kernel_rfl) (by (intro _ _ _ h; exact h)) (Or.inl ⟨by rfl, ?_⟩) (by assumption) ?_; rotate_left; intro w hSw; (try dsimp only at hSw); go_simp; (try with_reducible rfl))
              (try simp only [Act.put, List.setIfInBounds_toArray, List.set_cons_zero, List.set_cons_succ])
              (refine wpAnyH_take (i := 14) (v := ?_) (by (simp only [List.getElem?_toArray, List.getElem?_cons_zero, List.getElem?_cons_succ]; rfl)) (by kernel_rfl) (by kernel_rfl) (by kernel_rfl) (by (intro _ _ _ h; exact h)) (Or.inl ⟨by rfl, ?_⟩) (by assumption) ?_; rotate_left; intro w hSw; (try dsimp only at hSw); go_simp; (try with_reducible rfl))
              (try simp only [Act.put, List.setIfInBounds_toArray, List.set_cons_zero, List.set_cons_succ])
              refine wpAnyH_done (by kernel_rfl) ?_ _
              go_wp2_with fail
              go_meet
              case rel => exact ⟨rfl, by first | exact .inl rfl | exact .inr rfl⟩
          · as_aux_lemma =>
              (try go_simp)
              refine (D4.out _).mono ?_; rintro e w' ⟨rfl, rfl⟩
              go_wp2_with fail
              refine hK.out _ _ ?_ (fun hHeld => ?_)
              · (try dsimp only)
                (first | assumption | exact sa1.out | exact sa2.out | exact sb1.out | exact sb2.out | exact ⟨by go_simp, by go_simp, by go_simp, by go_simp⟩)
              clear hK K
              (try simp only [Act.put, List.setIfInBounds_toArray, List.set_cons_zero, List.set_cons_succ])
              refine wpAnyH_ready (rs := [6, 12]) (by kernel_rfl) (by simp) (AllReadyH.cons (by (simp only [List.getElem?_toArray, List.getElem?_cons_zero, List.getElem?_cons_succ]; rfl)) (fun K hK => ?_) (AllReadyH.cons (by (simp only [List.getElem?_toArray, List.getElem?_cons_zero, List.getElem?_cons_succ]; rfl)) (fun K hK => ?_) AllReadyH.nil))
              · as_aux_lemma =>
                  (try go_simp)
                  (first | simp only [ea1.out] | simp only [ea2.out] | simp only [eb1.out] | simp only [eb2.out]); (try go_simp)
                  refine hK.out _ _ ?_ (fun hHeld => ?_)
                  · (try dsimp only)
                    (first | assumption | exact sa1.out | exact sa2.out | exact sb1.out | exact sb2.out | exact ⟨by go_simp, by go_simp, by go_simp, by go_simp⟩)
                  clear hK K
                  (try simp only [Act.put, List.setIfInBounds_toArray, List.set_cons_zero, List.set_cons_succ])
                  refine wpAnyH_ready (rs := [12]) (by kernel_rfl) (by simp) (AllReadyH.cons (by (simp only [List.getElem?_toArray, List.getElem?_cons_zero, List.getElem?_cons_succ]; rfl)) (fun K hK => ?_) AllReadyH.nil)
                  (try go_simp)
                  (first | simp only [ea1.out] | simp only [ea2.out] | simp only [eb1.out] | simp only [eb2.out]); (try go_simp)
                  refine hK.out _ _ ?_ (fun hHeld => ?_)
                  · (try dsimp only)
                    (first | assumption | exact sa1.out | exact sa2.out | exact sb1.out | exact sb2.out | exact ⟨by go_simp, by go_simp, by go_simp, by go_simp⟩)
                  clear hK K
                  (try simp only [Act.put, List.setIfInBounds_toArray, List.set_cons_zero, List.set_cons_succ])
                  (refine wpAnyH_take (i := 13) (v := ?_) (by (simp only [List.getElem?_toArray, List.getElem?_cons_zero, List.getElem?_cons_succ]; rfl)) (by kernel_rfl) (by kernel_rfl) (by kernel_rfl) (by (intro _ _ _ h; exact h)) (Or.inl ⟨by rfl, ?_⟩) (by assumption) ?_; rotate_left; intro w hSw; (try dsimp only at hSw); go_simp; (try with_reducible rfl))
                  (try simp only [Act.put, List.setIfInBounds_toArray, List.set_cons_zero, List.set_cons_succ])
                  (refine wpAnyH_take (i := 14) (v := ?_) (by (simp only [List.getElem?_toArray, List.getElem?_cons_zero, List.getElem?_cons_succ]; rfl)) (by kernel_rfl) (by kernel_rfl) (by kernel_rfl) (by (intro _ _ _ h; exact h)) (Or.inl ⟨by rfl, ?_⟩) (by assumption) ?_; rotate_left; intro w hSw; (try dsimp only at hSw); go_simp; (try with_reducible rfl))
                  (try simp only [Act.put, List.setIfInBounds_toArray, List.set_cons_zero, List.set_cons_succ])
                  refine wpAnyH_done (by kernel_rfl) ?_ _
                  go_wp2_with fail
                  go_meet
                  case rel => exact ⟨rfl, by first | exact .inl rfl | exact .inr rfl⟩
              · as_aux_lemma =>
                  (try go_simp)
                  (first | simp only [ea1.out] | simp only [ea2.out] | simp only [eb1.out] | simp only [eb2.out]); (try go_simp)
                  refine hK.out _ _ ?_ (fun hHeld => ?_)
                  · (try dsimp only)
                    (first | assumption | exact sa1.out | exact sa2.out | exact sb1.out | exact sb2.out | exact ⟨by go_simp, by go_simp, by go_simp, by go_simp⟩)
                  clear hK K
                  (try simp only [Act.put, List.setIfInBounds_toArray, List.set_cons_zero, List.set_cons_succ])
                  refine wpAnyH_ready (rs := [6]) (by kernel_rfl) (by simp) (AllReadyH.cons (by (simp only [List.getElem?_toArray, List.getElem?_cons_zero, List.getElem?_cons_succ]; rfl)) (fun K hK => ?_) AllReadyH.nil)
                  (try go_simp)
                  (first | simp only [ea1.out] | simp only [ea2.out] | simp only [eb1.out] | simp only [eb2.out]); (try go_simp)
                  refine hK.out _ _ ?_ (fun hHeld => ?_)
                  · (try dsimp only)
                    (first | assumption | exact sa1.out | exact sa2.out | exact sb1.out | exact sb2.out | exact ⟨by go_simp, by go_simp, by go_simp, by go_simp⟩)
                  clear hK K
                  (try simp only [Act.put, List.setIfInBounds_toArray, List.set_cons_zero, List.set_cons_succ])
                  (refine wpAnyH_take (i := 13) (v := ?_) (by (simp only [List.getElem?_toArray, List.getElem?_cons_zero, List.getElem?_cons_succ]; rfl)) (by kernel_rfl) (by kernel_rfl) (by kernel_rfl) (by (intro _ _ _ h; exact h)) (Or.inl ⟨by rfl, ?_⟩) (by assumption) ?_; rotate_left; intro w hSw; (try dsimp only at hSw); go_simp; (try with_reducible rfl))
                  (try simp only [Act.put, List.setIfInBounds_toArray, List.set_cons_zero, List.set_cons_succ])
                  (refine wpAnyH_take (i := 14) (v := ?_) (by (simp only [List.getElem?_toArray, List.getElem?_cons_zero, List.getElem?_cons_succ]; rfl)) (by kernel_rfl) (by kernel_rfl) (by kernel_rfl) (by (intro _ _ _ h; exact h)) (Or.inl ⟨by rfl, ?_⟩) (by assumption) ?_; rotate_left; intro w hSw; (try dsimp only at hSw); go_simp; (try with_reducible rfl))
                  (try simp only [Act.put, List.setIfInBounds_toArray, List.set_cons_zero, List.set_cons_succ])
                  refine wpAnyH_done (by kernel_rfl) ?_ _
                  go_wp2_with fail
                  go_meet
                  case rel => exact ⟨rfl, by first | exact .inl rfl | exact .inr rfl⟩
      · as_aux_lemma =>
          (try go_simp)
          refine (D3.out _).mono ?_; rintro e w' ⟨rfl, rfl⟩
          go_wp2_with fail
          refine hK.out _ _ ?_ (fun hHeld => ?_)
          · (try dsimp only)
            (first | assumption | exact sa1.out | exact sa2.out | exact sb1.out | exact sb2.out | exact ⟨by go_simp, by go_simp, by go_simp, by go_simp⟩)
          clear hK K
          (try simp only [Act.put, List.setIfInBounds_toArray, List.set_cons_zero, List.set_cons_succ])
          refine wpAnyH_ready (rs := [0, 11]) (by kernel_rfl) (by simp) (AllReadyH.cons (by (simp only [List.getElem?_toArray, List.getElem?_cons_zero, List.getElem?_cons_succ]; rfl)) (fun K hK => ?_) (AllReadyH.cons (by (simp only [List.getElem?_toArray, List.getElem?_cons_zero, List.getElem?_cons_succ]; rfl)) (fun K hK => ?_) AllReadyH.nil))
          · as_aux_lemma =>
              (try go_simp)
              refine hK.out _ _ ?_ (fun hHeld => ?_)
              · (try dsimp only)
                (first | assumption | exact sa1.out | exact sa2.out | exact sb1.out | exact sb2.out | exact ⟨by go_simp, by go_simp, by go_simp, by go_simp⟩)
              clear hK K
              (try simp only [Act.put, List.setIfInBounds_toArray, List.set_cons_zero, List.set_cons_succ])
              refine wpAnyH_ready (rs := [6, 11]) (by kernel_rfl) (by simp) (AllReadyH.cons (by (simp only [List.getElem?_toArray, List.getElem?_cons_zero, List.getElem?_cons_succ]; rfl)) (fun K hK => ?_) (AllReadyH.cons (by (simp only [List.getElem?_toArray, List.getElem?_cons_zero, List.getElem?_cons_succ]; rfl)) (fun K hK => ?_) AllReadyH.nil))
              · as_aux_lemma =>
                  (try go_simp)
                  (first | simp only [ea1.out] | simp only [ea2.out] | simp only [eb1.out] | simp only [eb2.out]); (try go_simp)
                  refine hK.out _ _ ?_ (fun hHeld => ?_)
                  · (try dsimp only)
                    (first | assumption | exact sa1.out | exact sa2.out | exact sb1.out | exact sb2.out | exact ⟨by go_simp, by go_simp, by go_simp, by go_simp⟩)
                  clear hK K
                  (try simp only [Act.put, List.setIfInBounds_toArray, List.set_cons_zero, List.set_cons_succ])
                  refine wpAnyH_ready (rs := [11]) (by kernel_rfl) (by simp) (AllReadyH.cons (by (simp only [List.getElem?_toArray, List.getElem?_cons_zero, List.getElem?_cons_succ]; rfl)) (fun K hK => ?_) AllReadyH.nil)
                  (try go_simp)
                  refine (D4.out _).mono ?_; rintro e w' ⟨rfl, rfl⟩
                  go_wp2_with fail
                  refine hK.out _ _ ?_ (fun hHeld => ?_)
                  · (try dsimp only)
                    (first | assumption | exact sa1.out | exact sa2.out | exact sb1.out | exact sb2.out | exact ⟨by go_simp, by go_simp, by go_simp, by go_simp⟩)
                  clear hK K
                  (try simp only [Act.put, List.setIfInBounds_toArray, List.set_cons_zero, List.set_cons_succ])
                  refine wpAnyH_ready (rs := [12]) (by kernel_rfl) (by simp) (AllReadyH.cons (by (simp only [List.getElem?_toArray, List.getElem?_cons_zero, List.getElem?_cons_succ]; rfl)) (fun K hK => ?_) AllReadyH.nil)
                  (try go_simp)
                  (first | simp only [ea1.out] | simp only [ea2.out] | simp only [eb1.out] | simp only [eb2.out]); (try go_simp)
                  refine hK.out _ _ ?_ (fun hHeld => ?_)
                  · (try dsimp only)
                    (first | assumption | exact sa1.out | exact sa2.out | exact sb1.out | exact sb2.out | exact ⟨by go_simp, by go_simp, by go_simp, by go_simp⟩)
                  clear hK K
                  (try simp only [Act.put, List.setIfInBounds_toArray, List.set_cons_zero, List.set_cons_succ])
                  (refine wpAnyH_take (i := 13) (v := ?_) (by (simp only [List.getElem?_toArray, List.getElem?_cons_zero, List.getElem?_cons_succ]; rfl)) (by kernel_rfl) (by kernel_rfl) (by kernel_rfl) (by (intro _ _ _ h; exact h)) (Or.inl ⟨by rfl, ?_⟩) (by assumption) ?_; rotate_left; intro w hSw; (try dsimp only at hSw); go_simp; (try with_reducible rfl))
                  (try simp only [Act.put, List.setIfInBounds_toArray, List.set_cons_zero, List.set_cons_succ])
                  (refine wpAnyH_take (i := 14) (v := ?_) (by (simp only [List.getElem?_toArray, List.getElem?_cons_zero, List.getElem?_cons_succ]; rfl)) (by kernel_rfl) (by kernel_rfl) (by kernel_rfl) (by (intro _ _ _ h; exact h)) (Or.inl ⟨by rfl, ?_⟩) (by assumption) ?_; rotate_left; intro w hSw; (try dsimp only at hSw); go_simp; (try with_reducible rfl))
                  (try simp only [Act.put, List.setIfInBounds_toArray, List.set_cons_zero, List.set_cons_succ])
                  refine wpAnyH_done (by kernel_rfl) ?_ _
                  go_wp2_with fail
                  go_meet
                  case rel => exact ⟨rfl, by first | exact .inl rfl | exact .inr rfl⟩
              · as_aux_lemma =>
                  (try go_simp)
                  refine (D4.out _).mono ?_; rintro e w' ⟨rfl, rfl⟩
                  go_wp2_with fail
                  refine hK.out _ _ ?_ (fun hHeld => ?_)
                  · (try dsimp only)
                    (first | assumption | exact sa1.out | exact sa2.out | exact sb1.out | exact sb2.out | exact ⟨by go_simp, by go_simp, by go_simp, by go_simp⟩)
                  clear hK K
                  (try simp only [Act.put, List.setIfInBounds_toArray, List.set_cons_zero, List.set_cons_succ])
                  refine wpAnyH_ready (rs := [6, 12]) (by kernel_rfl) (by simp) (AllReadyH.cons (by (simp only [List.getElem?_toArray, List.getElem?_cons_zero, List.getElem?_cons_succ]; rfl)) (fun K hK => ?_) (AllReadyH.cons (by (simp only [List.getElem?_toArray, List.getElem?_cons_zero, List.getElem?_cons_succ]; rfl)) (fun K hK => ?_) AllReadyH.nil))
                  · as_aux_lemma =>
                      (try go_simp)
                      (first | simp only [ea1.out] | simp only [ea2.out] | simp only [eb1.out] | simp only [eb2.out]); (try go_simp)
                      refine hK.out _ _ ?_ (fun hHeld => ?_)
                      · (try dsimp only)
                        (first | assumption | exact sa1.out | exact sa2.out | exact sb1.out | exact sb2.out | exact ⟨by go_simp, by go_simp, by go_simp, by go_simp⟩)
                      clear hK K
                      (try simp only [Act.put, List.setIfInBounds_toArray, List.set_cons_zero, List.set_cons_succ])
                      refine wpAnyH_ready (rs := [12]) (by kernel_rfl) (by simp) (AllReadyH.cons (by (simp only [List.getElem?_toArray, List.getElem?_cons_zero, List.getElem?_cons_succ]; rfl)) (fun K hK => ?_) AllReadyH.nil)
                      (try go_simp)
                      (first | simp only [ea1.out] | simp only [ea2.out] | simp only [eb1.out] | simp only [eb2.out]); (try go_simp)
                      refine hK.out _ _ ?_ (fun hHeld => ?_)
                      · (try dsimp only)
                        (first | assumption | exact sa1.out | exact sa2.out | exact sb1.out | exact sb2.out | exact ⟨by go_simp, by go_simp, by go_simp, by go_simp⟩)
                      clear hK K
                      (try simp only [Act.put, List.setIfInBounds_toArray, List.set_cons_zero, List.set_cons_succ])
                      (refine wpAnyH_take (i := 13) (v := ?_) (by (simp only [List.getElem?_toArray, List.getElem?_cons_zero, List.getElem?_cons_succ]; rfl)) (by kernel_rfl) (by kernel_rfl) (by kernel_rfl) (by (intro _ _ _ h; exact h)) (Or.inl ⟨by rfl, ?_⟩) (by assumption) ?_; rotate_left; intro w hSw; (try dsimp only at hSw); go_simp; (try with_reducible rfl))
                      (try simp only [Act.put, List.setIfInBounds_toArray, List.set_cons_zero, List.set_cons_succ])
                      (refine wpAnyH_take (i := 14) (v := ?_) (by (simp only [List.getElem?_toArray, List.getElem?_cons_zero, List.getElem?_cons_succ]; rfl)) (by kernel_rfl) (by kernel_rfl) (by kernel_rfl) (by (intro _ _ _ h; exact h)) (Or.inl ⟨by rfl, ?_⟩) (by assumption) ?_; rotate_left; intro w hSw; (try dsimp only at hSw); go_simp; (try with_reducible rfl))
                      (try simp only [Act.put, List.setIfInBounds_toArray, List.set_cons_zero, List.set_cons_succ])
                      refine wpAnyH_done (by kernel_rfl) ?_ _
                      go_wp2_with fail
                      go_meet
                      case rel => exact ⟨rfl, by first | exact .inl rfl | exact .inr rfl⟩
                  · as_aux_lemma =>
                      (try go_simp)
                      (first | simp only [ea1.out] | simp only [ea2.out] | simp only [eb1.out] | simp only [eb2.out]); (try go_simp)
                      refine hK.out _ _ ?_ (fun hHeld => ?_)
                      · (try dsimp only)
                        (first | assumption | exact sa1.out | exact sa2.out | exact sb1.out | exact sb2.out | exact ⟨by go_simp, by go_simp, by go_simp, by go_simp⟩)
                      clear hK K
                      (try simp only [Act.put, List.setIfInBounds_toArray, List.set_cons_zero, List.set_cons_succ])
                      refine wpAnyH_ready (rs := [6]) (by kernel_rfl) (by simp) (AllReadyH.cons (by (simp only [List.getElem?_toArray, List.getElem?_cons_zero, List.getElem?_cons_succ]; rfl)) (fun K hK => ?_) AllReadyH.nil)
                      (try go_simp)
                      (first | simp only [ea1.out] | simp only [ea2.out] | simp only [eb1.out] | simp only [eb2.out]); (try go_simp)
                      refine hK.out _ _ ?_ (fun hHeld => ?_)
                      · (try dsimp only)
                        (first | assumption | exact sa1.out | exact sa2.out | exact sb1.out | exact sb2.out | exact ⟨by go_simp, by go_simp, by go_simp, by go_simp⟩)
                      clear hK K
                      (try simp only [Act.put, List.setIfInBounds_toArray, List.set_cons_zero, List.set_cons_succ])
                      (refine wpAnyH_take (i := 13) (v := ?_) (by (simp only [List.getElem?_toArray, List.getElem?_cons_zero, List.getElem?_cons_succ]; rfl)) (by kernel_rfl) (by kernel_rfl) (by kernel_rfl) (by (intro _ _ _ h; exact h)) (Or.inl ⟨by rfl, ?_⟩) (by assumption) ?_; rotate_left; intro w hSw; (try dsimp only at hSw); go_simp; (try with_reducible rfl))
                      (try simp only [Act.put, List.setIfInBounds_toArray, List.set_cons_zero, List.set_cons_succ])
                      (refine wpAnyH_take (i := 14) (v := ?_) (by (simp only [List.getElem?_toArray, List.getElem?_cons_zero, List.getElem?_cons_succ]; rfl)) (by kernel_rfl) (by kernel_rfl) (by kernel_rfl) (by (intro _ _ _ h; exact h)) (Or.inl ⟨by rfl, ?_⟩) (by assumption) ?_; rotate_left; intro w hSw; (try dsimp only at hSw); go_simp; (try with_reducible rfl))
                      (try simp only [Act.put, List.setIfInBounds_toArray, List.set_cons_zero, List.set_cons_succ])
                      refine wpAnyH_done (by kernel_rfl) ?_ _
                      go_wp2_with fail
                      go_meet
                      case rel => exact ⟨rfl, by first | exact .inl rfl | exact .inr rfl⟩
          · as_aux_lemma =>
              (try go_simp)
              refine (D4.out _).mono ?_; rintro e w' ⟨rfl, rfl⟩
              go_wp2_with fail
              refine hK.out _ _ ?_ (fun hHeld => ?_)
              · (try dsimp only)
                (first | assumption | exact sa1.out | exact sa2.out | exact sb1.out | exact sb2.out | exact ⟨by go_simp, by go_simp, by go_simp, by go_simp⟩)
              clear hK K
              (try simp only [Act.put, List.setIfInBounds_toArray, List.set_cons_zero, List.set_cons_succ])
              refine wpAnyH_ready (rs := [0]) (by kernel_rfl) (by simp) (AllReadyH.cons (by (simp only [List.getElem?_toArray, List.getElem?_cons_zero, List.getElem?_cons_succ]; rfl)) (fun K hK => ?_) AllReadyH.nil)
              (try go_simp)
              refine hK.out _ _ ?_ (fun hHeld => ?_)
              · (try dsimp only)
                (first | assumption | exact sa1.out | exact sa2.out | exact sb1.out | exact sb2.out | exact ⟨by go_simp, by go_simp, by go_simp, by go_simp⟩)
              clear hK K
              (try simp only [Act.put, List.setIfInBounds_toArray, List.set_cons_zero, List.set_cons_succ])
              refine wpAnyH_ready (rs := [6, 12]) (by kernel_rfl) (by simp) (AllReadyH.cons (by (simp only [List.getElem?_toArray, List.getElem?_cons_zero, List.getElem?_cons_succ]; rfl)) (fun K hK => ?_) (AllReadyH.cons (by (simp only [List.getElem?_toArray, List.getElem?_cons_zero, List.getElem?_cons_succ]; rfl)) (fun K hK => ?_) AllReadyH.nil))
              · as_aux_lemma =>
                  (try go_simp)
                  (first | simp only [ea1.out] | simp only [ea2.out] | simp only [eb1.out] | simp only [eb2.out]); (try go_simp)
                  refine hK.out _ _ ?_ (fun hHeld => ?_)
                  · (try dsimp only)
                    (first | assumption | exact sa1.out | exact sa2.out | exact sb1.out | exact sb2.out | exact ⟨by go_simp, by go_simp, by go_simp, by go_simp⟩)
                  clear hK K
                  (try simp only [Act.put, List.setIfInBounds_toArray, List.set_cons_zero, List.set_cons_succ])
                  refine wpAnyH_ready (rs := [12]) (by kernel_rfl) (by simp) (AllReadyH.cons (by (simp only [List.getElem?_toArray, List.getElem?_cons_zero, List.getElem?_cons_succ]; rfl)) (fun K hK => ?_) AllReadyH.nil)
                  (try go_simp)
                  (first | simp only [ea1.out] | simp only [ea2.out] | simp only [eb1.out] | simp only [eb2.out]); (try go_simp)
                  refine hK.out _ _ ?_ (fun hHeld => ?_)
                  · (try dsimp only)
                    (first | assumption | exact sa1.out | exact sa2.out | exact sb1.out | exact sb2.out | exact ⟨by go_simp, by go_simp, by go_simp, by go_simp⟩)
                  clear hK K
                  (try simp only [Act.put, List.setIfInBounds_toArray, List.set_cons_zero, List.set_cons_succ])
                  (refine wpAnyH_take (i := 13) (v := ?_) (by (simp only [List.getElem?_toArray, List.getElem?_cons_zero, List.getElem?_cons_succ]; rfl)) (by kernel_rfl) (by kernel_rfl) (by kernel_rfl) (by (intro _ _ _ h; exact h)) (Or.inl ⟨by rfl, ?_⟩) (by assumption) ?_; rotate_left; intro w hSw; (try dsimp only at hSw); go_simp; (try with_reducible rfl))
                  (try simp only [Act.put, List.setIfInBounds_toArray, List.set_cons_zero, List.set_cons_succ])
                  (refine wpAnyH_take (i := 14) (v := ?_) (by (simp only [List.getElem?_toArray, List.getElem?_cons_zero, List.getElem?_cons_succ]; rfl)) (by kernel_rfl) (by kernel_rfl) (by kernel_rfl) (by (intro _ _ _ h; exact h)) (Or.inl ⟨by rfl, ?_⟩) (by assumption) ?_; rotate_left; intro w hSw; (try dsimp only at hSw); go_simp; (try with_reducible rfl))
                  (try simp only [Act.put, List.setIfInBounds_toArray, List.set_cons_zero, List.set_cons_succ])
                  refine wpAnyH_done (by kernel_rfl) ?_ _
                  go_wp2_with fail
                  go_meet
                  case rel => exact ⟨rfl, by first | exact .inl rfl | exact .inr rfl⟩
              · as_aux_lemma =>
                  (try go_simp)
                  (first | simp only [ea1.out] | simp only [ea2.out] | simp only [eb1.out] | simp only [eb2.out]); (try go_simp)
                  refine hK.out _ _ ?_ (fun hHeld => ?_)
                  · (try dsimp only)
                    (first | assumption | exact sa1.out | exact sa2.out | exact sb1.out | exact sb2.out | exact ⟨by go_simp, by go_simp, by go_simp, by go_simp⟩)
                  clear hK K
                  (try simp only [Act.put, List.setIfInBounds_toArray, List.set_cons_zero, List.set_cons_succ])
                  refine wpAnyH_ready (rs := [6]) (by kernel_rfl) (by simp) (AllReadyH.cons (by (simp only [List.getElem?_toArray, List.getElem?_cons_zero, List.getElem?_cons_succ]; rfl)) (fun K hK => ?_) AllReadyH.nil)
                  (try go_simp)
                  (first | simp only [ea1.out] | simp only [ea2.out] | simp only [eb1.out] | simp only [eb2.out]); (try go_simp)
                  refine hK.out _ _ ?_ (fun hHeld => ?_)
                  · (try dsimp only)
                    (first | assumption | exact sa1.out | exact sa2.out | exact sb1.out | exact sb2.out | exact ⟨by go_simp, by go_simp, by go_simp, by go_simp⟩)
                  clear hK K
                  (try simp only [Act.put, List.setIfInBounds_toArray, List.set_cons_zero, List.set_cons_succ])
                  (refine wpAnyH_take (i := 13) (v := ?_) (by (simp only [List.getElem?_toArray, List.getElem?_cons_zero, List.getElem?_cons_succ]; rfl)) (by kernel_rfl) (by kernel_rfl) (by kernel_rfl) (by (intro _ _ _ h; exact h)) (Or.inl ⟨by rfl, ?_⟩) (by assumption) ?_; rotate_left; intro w hSw; (try dsimp only at hSw); go_simp; (try with_reducible rfl))
                  (try simp only [Act.put, List.setIfInBounds_toArray, List.set_cons_zero, List.set_cons_succ])
                  (refine wpAnyH_take (i := 14) (v := ?_) (by (simp only [List.getElem?_toArray, List.getElem?_cons_zero, List.getElem?_cons_succ]; rfl)) (by kernel_rfl) (by kernel_rfl) (by kernel_rfl) (by (intro _ _ _ h; exact h)) (Or.inl ⟨by rfl, ?_⟩) (by assumption) ?_; rotate_left; intro w hSw; (try dsimp only at hSw); go_simp; (try with_reducible rfl))
                  (try simp only [Act.put, List.setIfInBounds_toArray, List.set_cons_zero, List.set_cons_succ])
                  refine wpAnyH_done (by kernel_rfl) ?_ _
                  go_wp2_with fail
                  go_meet
                  case rel => exact ⟨rfl, by first | exact .inl rfl | exact .inr rfl⟩
    case rest =>
      obtain ⟨rfl, hw⟩ := hcut
      have GA2 := GA.out.cell (a := ⟨w.heap.size, 4, none⟩) (v := .bool b) (by go_simp) (by intro e; exact absurd (show w.heap.size = wd.heap.size from Option.some.inj e) (by omega))
      have GB2 := GB.out.cell (a := ⟨w.heap.size, 4, none⟩) (v := .bool b) (by go_simp) (by intro e; exact absurd (show w.heap.size = wd.heap.size from Option.some.inj e) (by omega))
      have BA : Below w.heap.size w wa2 := (hbc.drew.alloc (by simp; omega) _).grown GA.out (by simp; omega) (fun k e => by cases e; simp; omega)
      have BB : Below w.heap.size w wb2 := (hbc.drew.alloc (by simp; omega) _).grown GB.out (by simp; omega) (fun k e => by cases e; simp; omega)
      have oa := Lib.hid (show wa2.ownsMap Try.prog 4 (plainElem Try.prog 22) wd.heap.size _ _ from OA.out)
      have ob := Lib.hid (show wb2.ownsMap Try.prog 4 (plainElem Try.prog 22) wd.heap.size _ _ from OB.out)
      rcases hw with rfl | rfl
      · go_wp2_with (at_lookup; refine wpList_lookup_own_int _ rfl _ _ 121 rfl 4 22 .u64 K Try.underlying121 Try.underlying22 (Try.zero_u64 _) wd.heap.size _ _ rfl oa.out _ _ rfl (Go.Maps.keyOf_bool_mk Try.underlying4 b) ?_; intro c hat hwc)
        go_ret
        refine ⟨?_, by (repeat' (first | (with_reducible exact Below.refl _ _) | (with_reducible assumption) | (with_reducible refine Below.alloc ?_ ?_ _) | (with_reducible refine Below.drew ?_) | (with_reducible refine below_drewN ?_ _) | (with_reducible refine Below.setCell ?_ ?_ _) | (with_reducible refine Below.trans ?_ (Below.mono (by assumption) ?_)) | go_size))⟩
        rw [V.out]
        have hat2 := hat
        cases b
        · have e : (DataW.lit (Lit.int .u64 (p.toNat : Int)) : DataW Unit) = .lit (.int .u64 c) := by rw [← hat2]; rfl
          injection e with e; injection e with e1 e2
          exact ret_int e2.symm
        · have e : (DataW.lit (Lit.int .u64 (q.toNat : Int)) : DataW Unit) = .lit (.int .u64 c) := by rw [← hat2]; rfl
          injection e with e; injection e with e1 e2
          exact ret_int e2.symm
      · go_wp2_with (at_lookup; refine wpList_lookup_own_int _ rfl _ _ 121 rfl 4 22 .u64 K Try.underlying121 Try.underlying22 (Try.zero_u64 _) wd.heap.size _ _ rfl ob.out _ _ rfl (Go.Maps.keyOf_bool_mk Try.underlying4 b) ?_; intro c hat hwc)
        go_ret
        refine ⟨?_, by (repeat' (first | (with_reducible exact Below.refl _ _) | (with_reducible assumption) | (with_reducible refine Below.alloc ?_ ?_ _) | (with_reducible refine Below.drew ?_) | (with_reducible refine below_drewN ?_ _) | (with_reducible refine Below.setCell ?_ ?_ _) | (with_reducible refine Below.trans ?_ (Below.mono (by assumption) ?_)) | go_size))⟩
        rw [V.out]
        have hat2 := hat
        cases b
        · have e : (DataW.lit (Lit.int .u64 (p.toNat : Int)) : DataW Unit) = .lit (.int .u64 c) := by rw [← hat2]; rfl
          injection e with e; injection e with e1 e2
          exact ret_int e2.symm
        · have e : (DataW.lit (Lit.int .u64 (q.toNat : Int)) : DataW Unit) = .lit (.int .u64 c) := by rw [← hat2]; rfl
          injection e with e; injection e with e1 e2
          exact ret_int e2.symm
end Go.Proofs.Ytpbdffmgendboaa
