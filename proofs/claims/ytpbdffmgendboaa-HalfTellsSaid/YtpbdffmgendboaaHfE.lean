/- half.Words walked. -/
import Derived.Test.YtpbdffmgendboaaHfD
import Derived.Test.YtpbdffmgendboaaSl
namespace Go.Proofs.Ytpbdffmgendboaa
open Go Go.RowKit

namespace Hf
def it : Nat → St → St
  | 0, s => s
  | n + 1, s => step (it n s)
def words (n : Nat) (s : St) : List (BitVec 64) := (List.range n).map fun i => word (it i s)
theorem words_succ (n : Nat) (s : St) : words (n + 1) s = words n s ++ [word (it n s)] := by simp [words, List.range_succ]
theorem words_length (n : Nat) (s : St) : (words n s).length = n := by simp [words]
end Hf
theorem box5' {w : World} {b : Nat} {v0 v1 v2 v3 v4 : Value} (h : w.cell? ⟨b, 0, none⟩ = some v0 ∧ w.cell? ⟨b, 1, none⟩ = some v1 ∧ w.cell? ⟨b, 2, none⟩ = some v2 ∧ w.cell? ⟨b, 3, none⟩ = some v3 ∧ w.cell? ⟨b, 4, none⟩ = some v4)
    (f : w.frozen? ⟨b, 0, none⟩ = false ∧ w.frozen? ⟨b, 1, none⟩ = false ∧ w.frozen? ⟨b, 2, none⟩ = false ∧ w.frozen? ⟨b, 3, none⟩ = false ∧ w.frozen? ⟨b, 4, none⟩ = false) : BoxAt w b [v0, v1, v2, v3, v4] := box5 h f
def HfPost (n : Nat) (s : Hf.St) (w : World) (e : Ending) (w' : World) : Prop :=
  ∃ v, e = .returned (.tuple #[v, .agg #[.int .u64 (Wd.hi (Hf.it n s).c).toNat, .int .u64 (Wd.lo (Hf.it n s).c).toNat, .int .u32 (Hf.it n s).k0.toNat, .int .u32 (Hf.it n s).k1.toNat, .bool (Hf.it n s).b], .int .i64 0]) ∧ w'.ownsRow (w.heap.size + 2) 22 1 v n (u64s (Hf.words n s)) ∧ Below w.heap.size w w'

set_option maxRecDepth 100000 in
theorem hwords_no (m : Int) (hm : m < 0 ∨ 256 < m) (c : BitVec 128) (k0 k1 : BitVec 32) (b : Bool) (w : World) :
    Calls Try.prog 46 #[.agg #[.int .u64 (Wd.hi c).toNat, .int .u64 (Wd.lo c).toNat, .int .u32 k0.toNat, .int .u32 k1.toNat, .bool b], .int .i64 m] w fun e w' => e = .returned (.tuple #[.slice none 0 0, .agg #[.int .u64 0, .int .u64 0, .int .u32 0, .int .u32 0, .bool false], .int .i64 1]) ∧ Below w.heap.size w w' := by
  rcases hm with hm | hm
  · go_enter Try.func46, Try.ntmps46
    go_wp2
    refine bodyPost_ret (v := .tuple #[.slice none 0 0, .agg #[.int .u64 0, .int .u64 0, .int .u32 0, .int .u32 0, .bool false], .int .i64 1]) (by simp [results, Try.results46, go_sem, *]) rfl ?_
    exact ⟨rfl, by (repeat' (first | (with_reducible exact Below.refl _ _) | (with_reducible assumption) | (with_reducible refine Below.alloc ?_ ?_ _) | (with_reducible refine Below.drew ?_) | (with_reducible refine below_drewN ?_ _) | (with_reducible refine Below.setCell ?_ ?_ _) | (with_reducible refine Below.trans ?_ (Below.mono (by assumption) ?_)) | go_size))⟩
  · have h0 : ¬ m < 0 := by omega
    go_enter Try.func46, Try.ntmps46
    go_wp2
    refine bodyPost_ret (v := .tuple #[.slice none 0 0, .agg #[.int .u64 0, .int .u64 0, .int .u32 0, .int .u32 0, .bool false], .int .i64 1]) (by simp [results, Try.results46, go_sem, *]) rfl ?_
    exact ⟨rfl, by (repeat' (first | (with_reducible exact Below.refl _ _) | (with_reducible assumption) | (with_reducible refine Below.alloc ?_ ?_ _) | (with_reducible refine Below.drew ?_) | (with_reducible refine below_drewN ?_ _) | (with_reducible refine Below.setCell ?_ ?_ _) | (with_reducible refine Below.trans ?_ (Below.mono (by assumption) ?_)) | go_size))⟩

set_option maxRecDepth 100000 in
set_option maxHeartbeats 2000000 in
theorem hwords_ok (n : Nat) (hn : n ≤ 256) (c : BitVec 128) (k0 k1 : BitVec 32) (b : Bool) (w : World) :
    Calls Try.prog 46 #[.agg #[.int .u64 (Wd.hi c).toNat, .int .u64 (Wd.lo c).toNat, .int .u32 k0.toNat, .int .u32 k1.toNat, .bool b], .int .i64 n] w (HfPost n ⟨c, k0, k1, b⟩ w) := by
  obtain ⟨i0, hi, hi0, hi1, hi2⟩ := info_parts Try.infoU64
  have h0 : ¬ (n : Int) < 0 := by omega
  have h1 : ¬ (256 : Int) < n := by omega
  go_enter Try.func46, Try.ntmps46
  have hB0 : Boxes ((w.alloc (.cells #[.int .u64 (Wd.hi c).toNat, .int .u64 (Wd.lo c).toNat, .int .u32 k0.toNat, .int .u32 k1.toNat, .bool b] 82)).alloc (.cells #[.int .u64 0, .int .u64 0, .int .u32 0, .int .u32 0, .bool false] 82)) [(w.heap.size, [.int .u64 (Wd.hi c).toNat, .int .u64 (Wd.lo c).toNat, .int .u32 k0.toNat, .int .u32 k1.toNat, .bool b]), (w.heap.size + 1, [.int .u64 0, .int .u64 0, .int .u32 0, .int .u32 0, .bool false])] := (Boxes.cons (box5 ⟨by go_simp, by go_simp, by go_simp, by go_simp, by go_simp⟩ ⟨by go_simp, by go_simp, by go_simp, by go_simp, by go_simp⟩) (Boxes.cons (box5 ⟨by go_simp, by go_simp, by go_simp, by go_simp, by go_simp⟩ ⟨by go_simp, by go_simp, by go_simp, by go_simp, by go_simp⟩) (Boxes.nil _)))
  have HB0 := Lib.hid hB0
  clear hB0
  go_wp2
  go_loopw [7, 16] (fun v i wr => ∃ (j : Nat) (x : Hf.St), j ≤ n ∧ i = .int .i64 j ∧ Hid (Hf.it j ⟨c, k0, k1, b⟩ = x) ∧ Boxes wr [(w.heap.size, [.int .u64 (Wd.hi x.c).toNat, .int .u64 (Wd.lo x.c).toNat, .int .u32 x.k0.toNat, .int .u32 x.k1.toNat, .bool x.b]), (w.heap.size + 1, [.int .u64 0, .int .u64 0, .int .u32 0, .int .u32 0, .bool false])] ∧
      wr.ownsRow (w.heap.size + 2) 22 1 v j (u64s (Hf.words j ⟨c, k0, k1, b⟩)) ∧ w.heap.size + 2 ≤ wr.heap.size ∧ Below w.heap.size w wr) (fun _ i _ => n - (intOf i).toNat)
  case atStart => exact ⟨0, ⟨c, k0, k1, b⟩, by omega, rfl, Lib.hid rfl, HB0.out, World.ownsRow_nil _ _ _ _, by simp, by (repeat' (first | (with_reducible exact Below.refl _ _) | (with_reducible assumption) | (with_reducible refine Below.alloc ?_ ?_ _) | (with_reducible refine Below.drew ?_) | (with_reducible refine below_drewN ?_ _) | (with_reducible refine Below.setCell ?_ ?_ _) | (with_reducible refine Below.trans ?_ (Below.mono (by assumption) ?_)) | go_size))⟩
  case round =>
    obtain ⟨j, ⟨y, l0, l1, d⟩, hj, rfl, hx, hB, hown, hz, hb⟩ := hrel
    have hBx : Boxes wr [(w.heap.size, [.int .u64 (Wd.hi y).toNat, .int .u64 (Wd.lo y).toNat, .int .u32 l0.toNat, .int .u32 l1.toNat, .bool d]), (w.heap.size + 1, [.int .u64 0, .int .u64 0, .int .u32 0, .int .u32 0, .bool false])] := hB
    clear hB HB0
    have HO := Lib.hid hown
    clear hown
    have fcwr_y0 : wr.cell? ⟨w.heap.size, 0, none⟩ = some (.int .u64 (Wd.hi y).toNat) := (hBx.head 0 _ rfl).1; have ffwr_y0 : wr.frozen? ⟨w.heap.size, 0, none⟩ = false := (hBx.head 0 _ rfl).2; have fcwr_y1 : wr.cell? ⟨w.heap.size, 1, none⟩ = some (.int .u64 (Wd.lo y).toNat) := (hBx.head 1 _ rfl).1; have ffwr_y1 : wr.frozen? ⟨w.heap.size, 1, none⟩ = false := (hBx.head 1 _ rfl).2; have fcwr_y2 : wr.cell? ⟨w.heap.size, 2, none⟩ = some (.int .u32 l0.toNat) := (hBx.head 2 _ rfl).1; have ffwr_y2 : wr.frozen? ⟨w.heap.size, 2, none⟩ = false := (hBx.head 2 _ rfl).2; have fcwr_y3 : wr.cell? ⟨w.heap.size, 3, none⟩ = some (.int .u32 l1.toNat) := (hBx.head 3 _ rfl).1; have ffwr_y3 : wr.frozen? ⟨w.heap.size, 3, none⟩ = false := (hBx.head 3 _ rfl).2; have fcwr_y4 : wr.cell? ⟨w.heap.size, 4, none⟩ = some (.bool d) := (hBx.head 4 _ rfl).1; have ffwr_y4 : wr.frozen? ⟨w.heap.size, 4, none⟩ = false := (hBx.head 4 _ rfl).2; have fcwr_r0 : wr.cell? ⟨w.heap.size + 1, 0, none⟩ = some (.int .u64 0) := (hBx.tail.head 0 _ rfl).1; have ffwr_r0 : wr.frozen? ⟨w.heap.size + 1, 0, none⟩ = false := (hBx.tail.head 0 _ rfl).2; have fcwr_r1 : wr.cell? ⟨w.heap.size + 1, 1, none⟩ = some (.int .u64 0) := (hBx.tail.head 1 _ rfl).1; have ffwr_r1 : wr.frozen? ⟨w.heap.size + 1, 1, none⟩ = false := (hBx.tail.head 1 _ rfl).2; have fcwr_r2 : wr.cell? ⟨w.heap.size + 1, 2, none⟩ = some (.int .u32 0) := (hBx.tail.head 2 _ rfl).1; have ffwr_r2 : wr.frozen? ⟨w.heap.size + 1, 2, none⟩ = false := (hBx.tail.head 2 _ rfl).2; have fcwr_r3 : wr.cell? ⟨w.heap.size + 1, 3, none⟩ = some (.int .u32 0) := (hBx.tail.head 3 _ rfl).1; have ffwr_r3 : wr.frozen? ⟨w.heap.size + 1, 3, none⟩ = false := (hBx.tail.head 3 _ rfl).2; have fcwr_r4 : wr.cell? ⟨w.heap.size + 1, 4, none⟩ = some (.bool false) := (hBx.tail.head 4 _ rfl).1; have ffwr_r4 : wr.frozen? ⟨w.heap.size + 1, 4, none⟩ = false := (hBx.tail.head 4 _ rfl).2
    by_cases hlt : j < n
    · obtain ⟨z, hz2⟩ : ∃ z, Hf.step ⟨y, l0, l1, d⟩ = z := ⟨_, rfl⟩
      obtain ⟨z, m0, m1, f⟩ := z
      have D2 := Lib.hid (show ∀ w, Calls Try.prog 51 #[.agg #[.int .u64 (Wd.hi y).toNat, .int .u64 (Wd.lo y).toNat, .int .u32 l0.toNat, .int .u32 l1.toNat, .bool d]] w fun e w' => e = .returned (.agg #[.int .u64 (Wd.hi z).toNat, .int .u64 (Wd.lo z).toNat, .int .u32 m0.toNat, .int .u32 m1.toNat, .bool f]) ∧ Below w.heap.size w w' from by intro w; have h := hstep_c y l0 l1 d w; rw [hz2] at h; exact h)
      have HZ := Lib.hid hz2
      clear hz2
      go_wp2_with fail
      refine (hword_c _ _ _ _ _).mono ?_
      rintro e w3 ⟨rfl, hb3⟩
      have B3 : Boxes w3 [(w.heap.size, [.int .u64 (Wd.hi y).toNat, .int .u64 (Wd.lo y).toNat, .int .u32 l0.toNat, .int .u32 l1.toNat, .bool d]), (w.heap.size + 1, [.int .u64 0, .int .u64 0, .int .u32 0, .int .u32 0, .bool false])] := hBx.below hb3
      have O3 := owns_below HO.out hb3
      have b3 : Below w.heap.size w w3 := hb.trans (hb3.mono (by omega))
      have hz3 := hb3.size
      have HB3 := Lib.hid B3
      clear B3 hb3 hb hBx HO
      go_wp2_with (at_builtin; refine wpList_append_own _ rfl _ _ 67 rfl (w.heap.size + 2) 22 i0 (.int .u64 0) 1 8 Try.underlying67 hi hi0 hi1 hi2 rfl (by decide) _ _ _ rfl (O3.alloc _) ⟨w3.heap.size, 0, none⟩ 1 1 [.int .u64 (Hf.word ⟨y, l0, l1, d⟩).toNat] rfl rfl ?qa ?qb ?qc ?qd ?qe ?_)
      case qa => exact one_new _ _ _
      case qb => exact one_u64 _
      case qc => unfold maxLen; omega
      case qd => omega
      case qe => exact (by first | omega | (simp; done) | (simp; omega))
      · intro v' w4 hown' hgrow _
        have B4 : Boxes w4 [(w.heap.size, [.int .u64 (Wd.hi y).toNat, .int .u64 (Wd.lo y).toNat, .int .u32 l0.toNat, .int .u32 l1.toNat, .bool d]), (w.heap.size + 1, [.int .u64 0, .int .u64 0, .int .u32 0, .int .u32 0, .bool false])] := (HB3.out.alloc _).appended (O3.alloc _) hgrow (by intro q hq; simp at hq; rcases hq with rfl | rfl <;> simp)
        have b4 : Below w.heap.size w w4 := Below.grown (b3.alloc (by omega) _) hgrow (by simp; omega) (fun k e => by have := (O3.lt _ e).1; omega)
        have hz4 : w3.heap.size + 1 ≤ w4.heap.size := by have := hgrow.size; simpa using this
        have O4 : w4.ownsRow (w.heap.size + 2) 22 1 v' (j + 1) (u64s (Hf.words (j + 1) ⟨c, k0, k1, b⟩)) := by
          rw [Hf.words_succ, hx.out, u64s_snoc]; exact hown'
        clear hown' hgrow HB3 O3 b3
        have fcw4_y0 : w4.cell? ⟨w.heap.size, 0, none⟩ = some (.int .u64 (Wd.hi y).toNat) := (B4.head 0 _ rfl).1; have ffw4_y0 : w4.frozen? ⟨w.heap.size, 0, none⟩ = false := (B4.head 0 _ rfl).2; have fcw4_y1 : w4.cell? ⟨w.heap.size, 1, none⟩ = some (.int .u64 (Wd.lo y).toNat) := (B4.head 1 _ rfl).1; have ffw4_y1 : w4.frozen? ⟨w.heap.size, 1, none⟩ = false := (B4.head 1 _ rfl).2; have fcw4_y2 : w4.cell? ⟨w.heap.size, 2, none⟩ = some (.int .u32 l0.toNat) := (B4.head 2 _ rfl).1; have ffw4_y2 : w4.frozen? ⟨w.heap.size, 2, none⟩ = false := (B4.head 2 _ rfl).2; have fcw4_y3 : w4.cell? ⟨w.heap.size, 3, none⟩ = some (.int .u32 l1.toNat) := (B4.head 3 _ rfl).1; have ffw4_y3 : w4.frozen? ⟨w.heap.size, 3, none⟩ = false := (B4.head 3 _ rfl).2; have fcw4_y4 : w4.cell? ⟨w.heap.size, 4, none⟩ = some (.bool d) := (B4.head 4 _ rfl).1; have ffw4_y4 : w4.frozen? ⟨w.heap.size, 4, none⟩ = false := (B4.head 4 _ rfl).2; have fcw4_r0 : w4.cell? ⟨w.heap.size + 1, 0, none⟩ = some (.int .u64 0) := (B4.tail.head 0 _ rfl).1; have ffw4_r0 : w4.frozen? ⟨w.heap.size + 1, 0, none⟩ = false := (B4.tail.head 0 _ rfl).2; have fcw4_r1 : w4.cell? ⟨w.heap.size + 1, 1, none⟩ = some (.int .u64 0) := (B4.tail.head 1 _ rfl).1; have ffw4_r1 : w4.frozen? ⟨w.heap.size + 1, 1, none⟩ = false := (B4.tail.head 1 _ rfl).2; have fcw4_r2 : w4.cell? ⟨w.heap.size + 1, 2, none⟩ = some (.int .u32 0) := (B4.tail.head 2 _ rfl).1; have ffw4_r2 : w4.frozen? ⟨w.heap.size + 1, 2, none⟩ = false := (B4.tail.head 2 _ rfl).2; have fcw4_r3 : w4.cell? ⟨w.heap.size + 1, 3, none⟩ = some (.int .u32 0) := (B4.tail.head 3 _ rfl).1; have ffw4_r3 : w4.frozen? ⟨w.heap.size + 1, 3, none⟩ = false := (B4.tail.head 3 _ rfl).2; have fcw4_r4 : w4.cell? ⟨w.heap.size + 1, 4, none⟩ = some (.bool false) := (B4.tail.head 4 _ rfl).1; have ffw4_r4 : w4.frozen? ⟨w.heap.size + 1, 4, none⟩ = false := (B4.tail.head 4 _ rfl).2
        go_wp2_with fail
        refine (D2.out _).mono ?_
        rintro e w5 ⟨rfl, hb5⟩
        have B5 : Boxes w5 [(w.heap.size, [.int .u64 (Wd.hi y).toNat, .int .u64 (Wd.lo y).toNat, .int .u32 l0.toNat, .int .u32 l1.toNat, .bool d]), (w.heap.size + 1, [.int .u64 0, .int .u64 0, .int .u32 0, .int .u32 0, .bool false])] := B4.below hb5
        have O5 := Lib.hid (owns_below O4 hb5)
        have b5 : Below w.heap.size w w5 := b4.trans (hb5.mono (by omega))
        have hz5 := hb5.size
        clear O4 B4 b4 hb5
        have fcw5_y0 : w5.cell? ⟨w.heap.size, 0, none⟩ = some (.int .u64 (Wd.hi y).toNat) := (B5.head 0 _ rfl).1; have ffw5_y0 : w5.frozen? ⟨w.heap.size, 0, none⟩ = false := (B5.head 0 _ rfl).2; have fcw5_y1 : w5.cell? ⟨w.heap.size, 1, none⟩ = some (.int .u64 (Wd.lo y).toNat) := (B5.head 1 _ rfl).1; have ffw5_y1 : w5.frozen? ⟨w.heap.size, 1, none⟩ = false := (B5.head 1 _ rfl).2; have fcw5_y2 : w5.cell? ⟨w.heap.size, 2, none⟩ = some (.int .u32 l0.toNat) := (B5.head 2 _ rfl).1; have ffw5_y2 : w5.frozen? ⟨w.heap.size, 2, none⟩ = false := (B5.head 2 _ rfl).2; have fcw5_y3 : w5.cell? ⟨w.heap.size, 3, none⟩ = some (.int .u32 l1.toNat) := (B5.head 3 _ rfl).1; have ffw5_y3 : w5.frozen? ⟨w.heap.size, 3, none⟩ = false := (B5.head 3 _ rfl).2; have fcw5_y4 : w5.cell? ⟨w.heap.size, 4, none⟩ = some (.bool d) := (B5.head 4 _ rfl).1; have ffw5_y4 : w5.frozen? ⟨w.heap.size, 4, none⟩ = false := (B5.head 4 _ rfl).2; have fcw5_r0 : w5.cell? ⟨w.heap.size + 1, 0, none⟩ = some (.int .u64 0) := (B5.tail.head 0 _ rfl).1; have ffw5_r0 : w5.frozen? ⟨w.heap.size + 1, 0, none⟩ = false := (B5.tail.head 0 _ rfl).2; have fcw5_r1 : w5.cell? ⟨w.heap.size + 1, 1, none⟩ = some (.int .u64 0) := (B5.tail.head 1 _ rfl).1; have ffw5_r1 : w5.frozen? ⟨w.heap.size + 1, 1, none⟩ = false := (B5.tail.head 1 _ rfl).2; have fcw5_r2 : w5.cell? ⟨w.heap.size + 1, 2, none⟩ = some (.int .u32 0) := (B5.tail.head 2 _ rfl).1; have ffw5_r2 : w5.frozen? ⟨w.heap.size + 1, 2, none⟩ = false := (B5.tail.head 2 _ rfl).2; have fcw5_r3 : w5.cell? ⟨w.heap.size + 1, 3, none⟩ = some (.int .u32 0) := (B5.tail.head 3 _ rfl).1; have ffw5_r3 : w5.frozen? ⟨w.heap.size + 1, 3, none⟩ = false := (B5.tail.head 3 _ rfl).2; have fcw5_r4 : w5.cell? ⟨w.heap.size + 1, 4, none⟩ = some (.bool false) := (B5.tail.head 4 _ rfl).1; have ffw5_r4 : w5.frozen? ⟨w.heap.size + 1, 4, none⟩ = false := (B5.tail.head 4 _ rfl).2
        go_wp2
        go_roundw
        case rel =>
          refine ⟨j + 1, ⟨z, m0, m1, f⟩, by omega, by go_num, Lib.hid (by rw [Hf.it, hx.out, HZ.out]), (Boxes.cons (box5 ⟨by go_simp, by go_simp, by go_simp, by go_simp, by go_simp⟩ ⟨by go_simp, by go_simp, by go_simp, by go_simp, by go_simp⟩) (Boxes.cons (box5 ⟨by go_simp, by go_simp, by go_simp, by go_simp, by go_simp⟩ ⟨by go_simp, by go_simp, by go_simp, by go_simp, by go_simp⟩) (Boxes.nil _))), owns_grown (b := w.heap.size) O5.out (by (repeat' (first | (with_reducible exact World.grownBy.refl _ _) | (with_reducible assumption) | (with_reducible refine gb_alloc ?_ _) | (with_reducible refine gb_drew ?_) | (with_reducible refine gb_drewN ?_ _) | (with_reducible refine gb_set ?_ ?_ _) | (with_reducible refine gb_below ?_ (by assumption)) | (exact Or.inl rfl) | (refine Or.inr ?_) | go_size))) (by omega), by simp [World.setCell]; omega, ?_⟩
          (repeat' (first | (with_reducible exact Below.refl _ _) | (with_reducible assumption) | (with_reducible refine Below.alloc ?_ ?_ _) | (with_reducible refine Below.drew ?_) | (with_reducible refine below_drewN ?_ _) | (with_reducible refine Below.setCell ?_ ?_ _) | (with_reducible refine Below.trans ?_ (Below.mono (by assumption) ?_)) | go_size))
        case measure => simp [intOf]; omega
    · obtain rfl : n = j := by omega
      go_wp2
      go_region
      all_goals go_wp2
      all_goals
        refine bodyPost_ret (v := .tuple #[u7, .agg #[.int .u64 (Wd.hi y).toNat, .int .u64 (Wd.lo y).toNat, .int .u32 l0.toNat, .int .u32 l1.toNat, .bool d], .int .i64 0]) (by simp [results, Try.results46, go_sem, *]) rfl ?_
        exact ⟨_, by rw [hx.out], owns_grown (b := w.heap.size + 1) HO.out (by (repeat' (first | (with_reducible exact World.grownBy.refl _ _) | (with_reducible assumption) | (with_reducible refine gb_alloc ?_ _) | (with_reducible refine gb_drew ?_) | (with_reducible refine gb_drewN ?_ _) | (with_reducible refine gb_set ?_ ?_ _) | (with_reducible refine gb_below ?_ (by assumption)) | (exact Or.inl rfl) | (refine Or.inr ?_) | go_size))) (by omega), by (repeat' (first | (with_reducible exact Below.refl _ _) | (with_reducible assumption) | (with_reducible refine Below.alloc ?_ ?_ _) | (with_reducible refine Below.drew ?_) | (with_reducible refine below_drewN ?_ _) | (with_reducible refine Below.setCell ?_ ?_ _) | (with_reducible refine Below.trans ?_ (Below.mono (by assumption) ?_)) | go_size))⟩
end Go.Proofs.Ytpbdffmgendboaa
