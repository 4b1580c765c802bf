/- mix.Jump, mix.Words. -/
import Derived.Test.YtmihcjbnieoodaaMxC
import Derived.Test.YtmihcjbnieoodaaMxD
import Derived.Test.YtmihcjbnieoodaaSl
import Derived.Deep.RegionHeld3
namespace Go.Proofs.Ytmihcjbnieoodaa
open Go Go.RowKit

def Mx.plus (a b : BitVec 64) : BitVec 64 := a + b
theorem mj_sum (a b : BitVec 64) : IntKind.u64.wrap ((a.toNat : Int) + (b.toNat : Int)) = ((Mx.plus a b).toNat : Int) := by rw [IntKind.wrap_u64, add64]; rfl
attribute [local go_sem] mj_sum
set_option maxRecDepth 100000 in
theorem mjump_c (s : BitVec 64) (n : BitVec 128) (w : World) :
    Calls Try.prog 24 #[.int .u64 s.toNat, .agg #[.int .u64 (Wd.hi n).toNat, .int .u64 (Wd.lo n).toNat]] w fun e w' => e = .returned (.int .u64 (Mx.jump s (Wd.lo n)).toNat) ∧ Below w.heap.size w w' := by
  have D1 := Lib.hid (show ∀ w, Calls Try.prog 25 #[.int .u64 11400714819323198485] w fun e w' => e = .returned (.agg #[.int .u64 (Wd.hi (Wd.of Mx.gamma)).toNat, .int .u64 (Wd.lo (Wd.of Mx.gamma)).toNat]) ∧ Below w.heap.size w w' from
    fun w => Calls.val (wofV_c Mx.gamma w) rfl rfl)
  have D2 := Lib.hid (fun w => wmul_c n (Wd.of Mx.gamma) w)
  have L := Lib.hid (show Mx.plus s (Wd.lo (n * Wd.of Mx.gamma)) = Mx.jump s (Wd.lo n) from by
    unfold Mx.plus
    rw [← Wd.mul_lo, Wd.of, Wd.lo_mk, Mx.jump]; congr 1
    apply BitVec.eq_of_toNat_eq
    rw [← Wd.full_lo, BitVec.toNat_mul])
  go_enter Try.func24, Try.ntmps24
  go_wp2_with fail
  refine wp_region_held_drew (S := (fun w' => (w'.cell? ⟨w.heap.size, 0, none⟩ = some (.int .u64 (Wd.hi n).toNat) ∧ w'.cell? ⟨w.heap.size, 1, none⟩ = some (.int .u64 (Wd.lo n).toNat)))) (by kernel_rfl) (by (try dsimp only); go_keep) (fun hHeld => ?_)
  first
    | (refine wpAnyH_take (i := 0) (v := ?_) (by (simp only [List.getElem?_toArray, List.getElem?_cons_zero, List.getElem?_cons_succ]; rfl)) (by kernel_rfl) (by kernel_rfl) (by kernel_rfl) (by (intro _ _ _ h; exact h)) (Or.inl ⟨by rfl, ?_⟩) (by assumption) ?_; rotate_left; intro w hSw; (try dsimp only at hSw); go_simp; (try with_reducible rfl))
    | (refine wpAnyH_take (i := 0) (v := undef) (by (simp only [List.getElem?_toArray, List.getElem?_cons_zero, List.getElem?_cons_succ]; rfl)) (by kernel_rfl) (by kernel_rfl) (by kernel_rfl) (by (intro _ _ _ h; exact h)) (Or.inr ⟨by rfl, rfl⟩) (by assumption) ?_)
  (try simp only [Act.put, List.setIfInBounds_toArray, List.set_cons_zero, List.set_cons_succ])
  first
    | (refine wpAnyH_take (i := 1) (v := ?_) (by (simp only [List.getElem?_toArray, List.getElem?_cons_zero, List.getElem?_cons_succ]; rfl)) (by kernel_rfl) (by kernel_rfl) (by kernel_rfl) (by (intro _ _ _ h; exact h)) (Or.inl ⟨by rfl, ?_⟩) (by assumption) ?_; rotate_left; intro w hSw; (try dsimp only at hSw); go_simp; (try with_reducible rfl))
    | (refine wpAnyH_take (i := 1) (v := undef) (by (simp only [List.getElem?_toArray, List.getElem?_cons_zero, List.getElem?_cons_succ]; rfl)) (by kernel_rfl) (by kernel_rfl) (by kernel_rfl) (by (intro _ _ _ h; exact h)) (Or.inr ⟨by rfl, rfl⟩) (by assumption) ?_)
  (try simp only [Act.put, List.setIfInBounds_toArray, List.set_cons_zero, List.set_cons_succ])
  refine wpAnyH_ready (rs := [2]) (by kernel_rfl) (by simp) (AllReadyH.cons (by (simp only [List.getElem?_toArray, List.getElem?_cons_zero, List.getElem?_cons_succ]; rfl)) (fun K hK => ?_) AllReadyH.nil)
  (try go_simp)
  refine (D1.out _).mono ?_; rintro e w' ⟨rfl, hb⟩; have hk := keep_cell hb; have hz := hb.size; (try simp at hz)
  go_wp2_with fail
  refine hK.out _ _ ?_ (fun hHeld => ?_)
  · (try dsimp only)
    go_keep
  clear hK K
  (try simp only [Act.put, List.setIfInBounds_toArray, List.set_cons_zero, List.set_cons_succ])
  refine wpAnyH_ready (rs := [3]) (by kernel_rfl) (by simp) (AllReadyH.cons (by (simp only [List.getElem?_toArray, List.getElem?_cons_zero, List.getElem?_cons_succ]; rfl)) (fun K hK => ?_) AllReadyH.nil)
  (try go_simp)
  refine (D2.out _).mono ?_; rintro e w' ⟨rfl, hb⟩; have hk := keep_cell hb; have hz := hb.size; (try simp at hz)
  go_wp2_with fail
  refine hK.out _ _ ?_ (fun hHeld => ?_)
  · (try dsimp only)
    go_keep
  clear hK K
  (try simp only [Act.put, List.setIfInBounds_toArray, List.set_cons_zero, List.set_cons_succ])
  first
    | (refine wpAnyH_take (i := 4) (v := ?_) (by (simp only [List.getElem?_toArray, List.getElem?_cons_zero, List.getElem?_cons_succ]; rfl)) (by kernel_rfl) (by kernel_rfl) (by kernel_rfl) (by (intro _ _ _ h; exact h)) (Or.inl ⟨by rfl, ?_⟩) (by assumption) ?_; rotate_left; intro w hSw; (try dsimp only at hSw); go_simp; (try with_reducible rfl))
    | (refine wpAnyH_take (i := 4) (v := undef) (by (simp only [List.getElem?_toArray, List.getElem?_cons_zero, List.getElem?_cons_succ]; rfl)) (by kernel_rfl) (by kernel_rfl) (by kernel_rfl) (by (intro _ _ _ h; exact h)) (Or.inr ⟨by rfl, rfl⟩) (by assumption) ?_)
  (try simp only [Act.put, List.setIfInBounds_toArray, List.set_cons_zero, List.set_cons_succ])
  first
    | (refine wpAnyH_take (i := 5) (v := ?_) (by (simp only [List.getElem?_toArray, List.getElem?_cons_zero, List.getElem?_cons_succ]; rfl)) (by kernel_rfl) (by kernel_rfl) (by kernel_rfl) (by (intro _ _ _ h; exact h)) (Or.inl ⟨by rfl, ?_⟩) (by assumption) ?_; rotate_left; intro w hSw; (try dsimp only at hSw); go_simp; (try with_reducible rfl))
    | (refine wpAnyH_take (i := 5) (v := undef) (by (simp only [List.getElem?_toArray, List.getElem?_cons_zero, List.getElem?_cons_succ]; rfl)) (by kernel_rfl) (by kernel_rfl) (by kernel_rfl) (by (intro _ _ _ h; exact h)) (Or.inr ⟨by rfl, rfl⟩) (by assumption) ?_)
  (try simp only [Act.put, List.setIfInBounds_toArray, List.set_cons_zero, List.set_cons_succ])
  first
    | (refine wpAnyH_take (i := 6) (v := ?_) (by (simp only [List.getElem?_toArray, List.getElem?_cons_zero, List.getElem?_cons_succ]; rfl)) (by kernel_rfl) (by kernel_rfl) (by kernel_rfl) (by (intro _ _ _ h; exact h)) (Or.inl ⟨by rfl, ?_⟩) (by assumption) ?_; rotate_left; intro w hSw; (try dsimp only at hSw); go_simp; (try with_reducible rfl))
    | (refine wpAnyH_take (i := 6) (v := undef) (by (simp only [List.getElem?_toArray, List.getElem?_cons_zero, List.getElem?_cons_succ]; rfl)) (by kernel_rfl) (by kernel_rfl) (by kernel_rfl) (by (intro _ _ _ h; exact h)) (Or.inr ⟨by rfl, rfl⟩) (by assumption) ?_)
  (try simp only [Act.put, List.setIfInBounds_toArray, List.set_cons_zero, List.set_cons_succ])
  refine wpAnyH_done (by kernel_rfl) ?_ _
  go_wp2
  go_ret
  exact ⟨by rw [← L.out]; rfl, by (repeat' (first | (with_reducible exact Below.refl _ _) | (with_reducible assumption) | (with_reducible refine Below.alloc ?_ ?_ _) | (with_reducible refine Below.drew ?_) | (with_reducible refine below_drewN ?_ _) | (with_reducible refine Below.setCell ?_ ?_ _) | (with_reducible refine Below.trans ?_ (Below.mono (by assumption) ?_)) | go_size))⟩

namespace Mx
def it : Nat → BitVec 64 → BitVec 64
  | 0, s => s
  | n + 1, s => step (it n s)
def words (n : Nat) (s : BitVec 64) : List (BitVec 64) := (List.range n).map fun i => word (it i s)
theorem words_succ (n : Nat) (s : BitVec 64) : words (n + 1) s = words n s ++ [word (it n s)] := by simp [words, List.range_succ]
theorem words_length (n : Nat) (s : BitVec 64) : (words n s).length = n := by simp [words]
end Mx
def MxPost (n : Nat) (s : BitVec 64) (w : World) (e : Ending) (w' : World) : Prop :=
  ∃ v, e = .returned (.tuple #[v, .int .u64 (Mx.it n s).toNat, .int .i64 0]) ∧ w'.ownsRow w.heap.size 22 1 v n (u64s (Mx.words n s)) ∧ Below w.heap.size w w'

set_option maxRecDepth 100000 in
theorem mwords_no (m : Int) (hm : m < 0 ∨ 256 < m) (s : BitVec 64) (w : World) :
    Calls Try.prog 16 #[.int .u64 s.toNat, .int .i64 m] w fun e w' => e = .returned (.tuple #[.slice none 0 0, .int .u64 0, .int .i64 1]) ∧ Below w.heap.size w w' := by
  rcases hm with hm | hm
  · go_enter Try.func16, Try.ntmps16
    go_wp2
    go_ret3
    exact ⟨rfl, by (repeat' (first | (with_reducible exact Below.refl _ _) | (with_reducible assumption) | (with_reducible refine Below.alloc ?_ ?_ _) | (with_reducible refine Below.drew ?_) | (with_reducible refine below_drewN ?_ _) | (with_reducible refine Below.setCell ?_ ?_ _) | (with_reducible refine Below.trans ?_ (Below.mono (by assumption) ?_)) | go_size))⟩
  · have h0 : ¬ m < 0 := by omega
    go_enter Try.func16, Try.ntmps16
    go_wp2
    go_ret3
    exact ⟨rfl, by (repeat' (first | (with_reducible exact Below.refl _ _) | (with_reducible assumption) | (with_reducible refine Below.alloc ?_ ?_ _) | (with_reducible refine Below.drew ?_) | (with_reducible refine below_drewN ?_ _) | (with_reducible refine Below.setCell ?_ ?_ _) | (with_reducible refine Below.trans ?_ (Below.mono (by assumption) ?_)) | go_size))⟩

set_option maxRecDepth 100000 in
set_option maxHeartbeats 1000000 in
theorem mwords_ok (n : Nat) (hn : n ≤ 256) (s : BitVec 64) (w : World) :
    Calls Try.prog 16 #[.int .u64 s.toNat, .int .i64 n] w (MxPost n s w) := by
  obtain ⟨i0, hi, hi0, hi1, hi2⟩ := info_parts Try.infoU64
  have h0 : ¬ (n : Int) < 0 := by omega
  have h1 : ¬ (256 : Int) < n := by omega
  go_enter Try.func16, Try.ntmps16
  go_wp2
  go_loopw [0, 7, 15] (fun x v i wr => ∃ (j : Nat) (y : BitVec 64), j ≤ n ∧ i = .int .i64 j ∧ x = .int .u64 y.toNat ∧ Hid (Mx.it j s = y) ∧
      wr.ownsRow w.heap.size 22 1 v j (u64s (Mx.words j s)) ∧ w.heap.size ≤ wr.heap.size ∧ Below w.heap.size w wr) (fun _ _ i _ => n - (intOf i).toNat)
  case atStart => exact ⟨0, s, by omega, rfl, rfl, Lib.hid rfl, World.ownsRow_nil _ _ _ _, by simp, by (repeat' (first | (with_reducible exact Below.refl _ _) | (with_reducible assumption) | (with_reducible refine Below.alloc ?_ ?_ _) | (with_reducible refine Below.drew ?_) | (with_reducible refine below_drewN ?_ _) | (with_reducible refine Below.setCell ?_ ?_ _) | (with_reducible refine Below.trans ?_ (Below.mono (by assumption) ?_)) | go_size))⟩
  case round =>
    obtain ⟨j, y, hj, rfl, rfl, hx, hown, hz, hb⟩ := hrel
    have HO := Lib.hid hown
    clear hown
    by_cases hlt : j < n
    · go_wp2_with fail
      refine (mword_c _ _).mono ?_
      rintro e w3 ⟨rfl, hb3⟩
      have O3 := owns_below HO.out hb3
      have b3 : Below w.heap.size w w3 := hb.trans (hb3.mono (by omega))
      have hz3 := hb3.size
      clear hb3 hb
      go_wp2_with (at_builtin; refine wpList_append_own _ rfl _ _ 25 rfl w.heap.size 22 i0 (.int .u64 0) 1 8 Try.underlying25 hi hi0 hi1 hi2 rfl (by decide) _ _ _ rfl (O3.alloc _) ⟨w3.heap.size, 0, none⟩ 1 1 [.int .u64 (Mx.word y).toNat] rfl rfl ?qa ?qb ?qc ?qd ?qe ?_)
      case qa => exact one_new _ _ _
      case qb => exact one_u64 _
      case qc => unfold maxLen; omega
      case qd => omega
      case qe => exact (by first | omega | (simp; done) | (simp; omega))
      · intro v' w4 hown' hgrow _
        have b4 : Below w.heap.size w w4 := Below.grown (b3.alloc (by omega) _) hgrow (by simp; omega) (fun k e => by have := (O3.lt _ e).1; omega)
        have hz4 : w3.heap.size + 1 ≤ w4.heap.size := by have := hgrow.size; simpa using this
        have O4 : w4.ownsRow w.heap.size 22 1 v' (j + 1) (u64s (Mx.words (j + 1) s)) := by
          rw [Mx.words_succ, hx.out, u64s_snoc]; exact hown'
        have HO4 := Lib.hid O4
        clear O4 hown' hgrow O3 b3
        go_wp2_with fail
        refine (mstep_c _ _).mono ?_
        rintro e w5 ⟨rfl, rfl⟩
        go_wp2
        go_roundw
        case rel => exact ⟨j + 1, Mx.step y, by omega, by go_num, rfl, Lib.hid (by rw [Mx.it, hx.out]), HO4.out, by omega, b4⟩
        case measure => simp [intOf]; omega
    · obtain rfl : n = j := by omega
      go_wp2
      go_ret3
      exact ⟨_, by rw [hx.out]; rfl, HO.out, by (repeat' (first | (with_reducible exact Below.refl _ _) | (with_reducible assumption) | (with_reducible refine Below.alloc ?_ ?_ _) | (with_reducible refine Below.drew ?_) | (with_reducible refine below_drewN ?_ _) | (with_reducible refine Below.setCell ?_ ?_ _) | (with_reducible refine Below.trans ?_ (Below.mono (by assumption) ?_)) | go_size))⟩
end Go.Proofs.Ytmihcjbnieoodaa
