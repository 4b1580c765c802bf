/- xosh.Words, xosh.Bits. -/
import Derived.Test.YtpkfgpbneogijaaXoB
namespace Go.Proofs.Ytpkfgpbneogijaa
open Go Go.RowKit

namespace Xo
def words (n : Nat) (s : St) : List (BitVec 64) := (List.range n).map fun i => word (it i s)
def bitsL (n : Nat) (s : St) : List Bool := (List.range n).map fun i => ((it i s).a.toNat : Int) % 2 == 1
theorem words_succ (n : Nat) (s : St) : words (n + 1) s = words n s ++ [word (it n s)] := by simp [words, List.range_succ]
theorem bits_succ (n : Nat) (s : St) : bitsL (n + 1) s = bitsL n s ++ [((it n s).a.toNat : Int) % 2 == 1] := by simp [bitsL, List.range_succ]
theorem words_length (n : Nat) (s : St) : (words n s).length = n := by simp [words]
theorem bits_length (n : Nat) (s : St) : (bitsL n s).length = n := by simp [bitsL]
end Xo

theorem eq4_zero (s : St) : eq4 s.a.toNat s.b.toNat s.c.toNat s.d.toNat 0 0 0 0 = decide (s = Xo.zero) := by
  unfold eq4
  congr 1
  apply propext
  constructor
  · rintro ⟨h0, h1, h2, h3⟩
    exact Xo.ext (BitVec.eq_of_toNat_eq (by show s.a.toNat = 0; omega)) (BitVec.eq_of_toNat_eq (by show s.b.toNat = 0; omega)) (BitVec.eq_of_toNat_eq (by show s.c.toNat = 0; omega)) (BitVec.eq_of_toNat_eq (by show s.d.toNat = 0; omega))
  · rintro rfl; exact ⟨rfl, rfl, rfl, rfl⟩

def WordsPost (n : Nat) (s : St) (w : World) (e : Ending) (w' : World) : Prop :=
  ∃ v, e = .returned (.tuple #[v, .agg #[.int .u64 (Xo.it n s).a.toNat, .int .u64 (Xo.it n s).b.toNat, .int .u64 (Xo.it n s).c.toNat, .int .u64 (Xo.it n s).d.toNat], .int .i64 0]) ∧ w'.ownsRow (w.heap.size + 1) 40 1 v n (u64s (Xo.words n s)) ∧ Below w.heap.size w w'
def BitsPost (n : Nat) (s : St) (w : World) (e : Ending) (w' : World) : Prop :=
  ∃ v, e = .returned (.tuple #[v, .int .i64 0]) ∧ w'.ownsRow (w.heap.size + 1) 4 1 v n (bools (Xo.bitsL n s)) ∧ Below w.heap.size w w'

set_option maxRecDepth 100000 in
set_option maxHeartbeats 1000000 in
theorem xwords_ok (n : Nat) (hn : n ≤ 256) (s0 s1 s2 s3 : BitVec 64) (hs : (⟨s0, s1, s2, s3⟩ : St) ≠ Xo.zero) (w : World) :
    Calls Try.prog 30 #[.agg #[.int .u64 s0.toNat, .int .u64 s1.toNat, .int .u64 s2.toNat, .int .u64 s3.toNat], .int .i64 n] w (WordsPost n ⟨s0, s1, s2, s3⟩ w) := by
  obtain ⟨i0, hi, hi0, hi1, hi2⟩ := info_parts Try.infoU64
  have q : eq4 s0.toNat s1.toNat s2.toNat s3.toNat 0 0 0 0 = false := by
    have := eq4_zero ⟨s0, s1, s2, s3⟩
    simp only at this
    rw [this]; simpa using hs
  have h0 : ¬ (n : Int) < 0 := by omega
  have h1 : ¬ (256 : Int) < n := by omega
  go_enter Try.func30, Try.ntmps30
  go_wp2_with fail
  refine (xright_c _ _ _ _ _).mono ?_
  rintro e w1 ⟨rfl, hb1⟩
  have hz1 := hb1.size; (try simp at hz1)
  have kc1w_heap_size_0 : w1.cell? ⟨w.heap.size, 0, none⟩ = some (.int .u64 s0.toNat) := (hb1.cell (p := ⟨w.heap.size, 0, none⟩) (by first | omega | (simp; done) | (simp; omega))).trans (by go_simp); have kf1w_heap_size_0 : w1.frozen? ⟨w.heap.size, 0, none⟩ = false := (hb1.frozen (p := ⟨w.heap.size, 0, none⟩) (by first | omega | (simp; done) | (simp; omega))).trans (by go_simp); have kc1w_heap_size_1 : w1.cell? ⟨w.heap.size, 1, none⟩ = some (.int .u64 s1.toNat) := (hb1.cell (p := ⟨w.heap.size, 1, none⟩) (by first | omega | (simp; done) | (simp; omega))).trans (by go_simp); have kf1w_heap_size_1 : w1.frozen? ⟨w.heap.size, 1, none⟩ = false := (hb1.frozen (p := ⟨w.heap.size, 1, none⟩) (by first | omega | (simp; done) | (simp; omega))).trans (by go_simp); have kc1w_heap_size_2 : w1.cell? ⟨w.heap.size, 2, none⟩ = some (.int .u64 s2.toNat) := (hb1.cell (p := ⟨w.heap.size, 2, none⟩) (by first | omega | (simp; done) | (simp; omega))).trans (by go_simp); have kf1w_heap_size_2 : w1.frozen? ⟨w.heap.size, 2, none⟩ = false := (hb1.frozen (p := ⟨w.heap.size, 2, none⟩) (by first | omega | (simp; done) | (simp; omega))).trans (by go_simp); have kc1w_heap_size_3 : w1.cell? ⟨w.heap.size, 3, none⟩ = some (.int .u64 s3.toNat) := (hb1.cell (p := ⟨w.heap.size, 3, none⟩) (by first | omega | (simp; done) | (simp; omega))).trans (by go_simp); have kf1w_heap_size_3 : w1.frozen? ⟨w.heap.size, 3, none⟩ = false := (hb1.frozen (p := ⟨w.heap.size, 3, none⟩) (by first | omega | (simp; done) | (simp; omega))).trans (by go_simp)
  have kc1w_heap_size___1_0 : w1.cell? ⟨w.heap.size + 1, 0, none⟩ = some (.int .u64 0) := (hb1.cell (p := ⟨w.heap.size + 1, 0, none⟩) (by first | omega | (simp; done) | (simp; omega))).trans (by go_simp); have kf1w_heap_size___1_0 : w1.frozen? ⟨w.heap.size + 1, 0, none⟩ = false := (hb1.frozen (p := ⟨w.heap.size + 1, 0, none⟩) (by first | omega | (simp; done) | (simp; omega))).trans (by go_simp); have kc1w_heap_size___1_1 : w1.cell? ⟨w.heap.size + 1, 1, none⟩ = some (.int .u64 0) := (hb1.cell (p := ⟨w.heap.size + 1, 1, none⟩) (by first | omega | (simp; done) | (simp; omega))).trans (by go_simp); have kf1w_heap_size___1_1 : w1.frozen? ⟨w.heap.size + 1, 1, none⟩ = false := (hb1.frozen (p := ⟨w.heap.size + 1, 1, none⟩) (by first | omega | (simp; done) | (simp; omega))).trans (by go_simp); have kc1w_heap_size___1_2 : w1.cell? ⟨w.heap.size + 1, 2, none⟩ = some (.int .u64 0) := (hb1.cell (p := ⟨w.heap.size + 1, 2, none⟩) (by first | omega | (simp; done) | (simp; omega))).trans (by go_simp); have kf1w_heap_size___1_2 : w1.frozen? ⟨w.heap.size + 1, 2, none⟩ = false := (hb1.frozen (p := ⟨w.heap.size + 1, 2, none⟩) (by first | omega | (simp; done) | (simp; omega))).trans (by go_simp); have kc1w_heap_size___1_3 : w1.cell? ⟨w.heap.size + 1, 3, none⟩ = some (.int .u64 0) := (hb1.cell (p := ⟨w.heap.size + 1, 3, none⟩) (by first | omega | (simp; done) | (simp; omega))).trans (by go_simp); have kf1w_heap_size___1_3 : w1.frozen? ⟨w.heap.size + 1, 3, none⟩ = false := (hb1.frozen (p := ⟨w.heap.size + 1, 3, none⟩) (by first | omega | (simp; done) | (simp; omega))).trans (by go_simp)
  go_wp2_with fail
  refine (steps7_c _ _).mono ?_
  rintro e w' ⟨rfl, rfl⟩
  have hB0 : Boxes (w1.alloc (.cells #[.pointer (some ⟨w.heap.size, 0, none⟩)] 85)) [(w.heap.size, [.int .u64 s0.toNat, .int .u64 s1.toNat, .int .u64 s2.toNat, .int .u64 s3.toNat]), (w.heap.size + 1, [.int .u64 0, .int .u64 0, .int .u64 0, .int .u64 0]), (w1.heap.size, [.pointer (some ⟨w.heap.size, 0, none⟩)])] := (Boxes.cons (box4 ⟨by go_simp, by go_simp, by go_simp, by go_simp⟩ ⟨by go_simp, by go_simp, by go_simp, by go_simp⟩) (Boxes.cons (box4 ⟨by go_simp, by go_simp, by go_simp, by go_simp⟩ ⟨by go_simp, by go_simp, by go_simp, by go_simp⟩) (Boxes.cons (box1 (by go_simp) (by go_simp)) (Boxes.nil _))))
  have hb0 : Below w.heap.size w (w1.alloc (.cells #[.pointer (some ⟨w.heap.size, 0, none⟩)] 85)) := by (repeat' (first | (with_reducible exact Below.refl _ _) | (with_reducible assumption) | (with_reducible refine Below.alloc ?_ ?_ _) | (with_reducible refine Below.drew ?_) | (with_reducible refine below_drewN ?_ _) | (with_reducible refine Below.setCell ?_ ?_ _) | (with_reducible refine Below.trans ?_ (Below.mono (by assumption) ?_)) | go_size))
  have HB0 := Lib.hid hB0
  clear hB0 hb1 q
  go_wp2
  go_loopw [7, 24] (fun v i wr => ∃ (j : Nat) (x : St), j ≤ n ∧ i = .int .i64 j ∧ Hid (Xo.it j ⟨s0, s1, s2, s3⟩ = x) ∧ Boxes wr [(w.heap.size, [.int .u64 (x).a.toNat, .int .u64 (x).b.toNat, .int .u64 (x).c.toNat, .int .u64 (x).d.toNat]), (w.heap.size + 1, [.int .u64 0, .int .u64 0, .int .u64 0, .int .u64 0]), (w1.heap.size, [.pointer (some ⟨w.heap.size, 0, none⟩)])] ∧
      wr.ownsRow (w1.heap.size + 1) 40 1 v j (u64s (Xo.words j ⟨s0, s1, s2, s3⟩)) ∧ w1.heap.size + 1 ≤ wr.heap.size ∧ Below w.heap.size w wr) (fun _ i _ => n - (intOf i).toNat)
  case atStart => exact ⟨0, ⟨s0, s1, s2, s3⟩, by omega, rfl, Lib.hid rfl, HB0.out, World.ownsRow_nil _ _ _ _, by simp, hb0⟩
  case round =>
    obtain ⟨j, ⟨x0, x1, x2, x3⟩, hj, rfl, hx, hB, hown, hz, hb⟩ := hrel
    have hBx : Boxes wr [(w.heap.size, [.int .u64 x0.toNat, .int .u64 x1.toNat, .int .u64 x2.toNat, .int .u64 x3.toNat]), (w.heap.size + 1, [.int .u64 0, .int .u64 0, .int .u64 0, .int .u64 0]), (w1.heap.size, [.pointer (some ⟨w.heap.size, 0, none⟩)])] := hB
    clear hB
    have HO := Lib.hid hown
    clear hown
    have fcwr_y0 : wr.cell? ⟨w.heap.size, 0, none⟩ = some (.int .u64 x0.toNat) := (hBx.head 0 _ rfl).1; have ffwr_y0 : wr.frozen? ⟨w.heap.size, 0, none⟩ = false := (hBx.head 0 _ rfl).2; have fcwr_y1 : wr.cell? ⟨w.heap.size, 1, none⟩ = some (.int .u64 x1.toNat) := (hBx.head 1 _ rfl).1; have ffwr_y1 : wr.frozen? ⟨w.heap.size, 1, none⟩ = false := (hBx.head 1 _ rfl).2; have fcwr_y2 : wr.cell? ⟨w.heap.size, 2, none⟩ = some (.int .u64 x2.toNat) := (hBx.head 2 _ rfl).1; have ffwr_y2 : wr.frozen? ⟨w.heap.size, 2, none⟩ = false := (hBx.head 2 _ rfl).2; have fcwr_y3 : wr.cell? ⟨w.heap.size, 3, none⟩ = some (.int .u64 x3.toNat) := (hBx.head 3 _ rfl).1; have ffwr_y3 : wr.frozen? ⟨w.heap.size, 3, none⟩ = false := (hBx.head 3 _ rfl).2; have fcwr_r0 : wr.cell? ⟨w.heap.size + 1, 0, none⟩ = some (.int .u64 0) := (hBx.tail.head 0 _ rfl).1; have ffwr_r0 : wr.frozen? ⟨w.heap.size + 1, 0, none⟩ = false := (hBx.tail.head 0 _ rfl).2; have fcwr_r1 : wr.cell? ⟨w.heap.size + 1, 1, none⟩ = some (.int .u64 0) := (hBx.tail.head 1 _ rfl).1; have ffwr_r1 : wr.frozen? ⟨w.heap.size + 1, 1, none⟩ = false := (hBx.tail.head 1 _ rfl).2; have fcwr_r2 : wr.cell? ⟨w.heap.size + 1, 2, none⟩ = some (.int .u64 0) := (hBx.tail.head 2 _ rfl).1; have ffwr_r2 : wr.frozen? ⟨w.heap.size + 1, 2, none⟩ = false := (hBx.tail.head 2 _ rfl).2; have fcwr_r3 : wr.cell? ⟨w.heap.size + 1, 3, none⟩ = some (.int .u64 0) := (hBx.tail.head 3 _ rfl).1; have ffwr_r3 : wr.frozen? ⟨w.heap.size + 1, 3, none⟩ = false := (hBx.tail.head 3 _ rfl).2; have fcwr_p0 : wr.cell? ⟨w1.heap.size, 0, none⟩ = some (.pointer (some ⟨w.heap.size, 0, none⟩)) := (hBx.tail.tail.head 0 _ rfl).1; have ffwr_p0 : wr.frozen? ⟨w1.heap.size, 0, none⟩ = false := (hBx.tail.tail.head 0 _ rfl).2
    by_cases hlt : j < n
    · go_wp2_with fail
      refine (next7_c x0 x1 x2 x3 w1.heap.size w.heap.size (by omega) wr fcwr_p0 ⟨⟨fcwr_y0, fcwr_y1, fcwr_y2, fcwr_y3⟩, ⟨ffwr_y0, ffwr_y1, ffwr_y2, ffwr_y3⟩⟩).mono ?_
      rintro e w2 ⟨rfl, hbox, hg⟩
      have B2 : Boxes w2 [(w.heap.size, [.int .u64 (Xo.step ⟨x0, x1, x2, x3⟩).a.toNat, .int .u64 (Xo.step ⟨x0, x1, x2, x3⟩).b.toNat, .int .u64 (Xo.step ⟨x0, x1, x2, x3⟩).c.toNat, .int .u64 (Xo.step ⟨x0, x1, x2, x3⟩).d.toNat]), (w.heap.size + 1, [.int .u64 0, .int .u64 0, .int .u64 0, .int .u64 0]), (w1.heap.size, [.pointer (some ⟨w.heap.size, 0, none⟩)])] := Boxes.cons (box4 hbox.1 hbox.2) (hBx.tail.grown hg (by intro q hq; simp at hq; rcases hq with rfl | rfl <;> simp <;> omega))
      have O2 := owns_grown HO.out hg (by omega)
      have b2 : Below w.heap.size w w2 := below_gb hb hg (by omega) (Nat.le_refl _)
      have hz2 := hg.size
      have HB2 := Lib.hid B2
      have HO2 := Lib.hid O2
      clear B2 O2 hbox hg HO hBx hb HB0 hb0
      go_wp2_with fail
      refine (xword_c _ _ _ _ _).mono ?_
      rintro e w3 ⟨rfl, hb3⟩
      have B3 : Boxes w3 [(w.heap.size, [.int .u64 (Xo.step ⟨x0, x1, x2, x3⟩).a.toNat, .int .u64 (Xo.step ⟨x0, x1, x2, x3⟩).b.toNat, .int .u64 (Xo.step ⟨x0, x1, x2, x3⟩).c.toNat, .int .u64 (Xo.step ⟨x0, x1, x2, x3⟩).d.toNat]), (w.heap.size + 1, [.int .u64 0, .int .u64 0, .int .u64 0, .int .u64 0]), (w1.heap.size, [.pointer (some ⟨w.heap.size, 0, none⟩)])] := HB2.out.below hb3
      have O3 := owns_below HO2.out hb3
      have b3 : Below w.heap.size w w3 := b2.trans (hb3.mono (by omega))
      have hz3 := hb3.size
      have HB3 := Lib.hid B3
      clear B3 hb3 b2
      go_wp2_with (at_builtin; refine wpList_append_own _ rfl _ _ 48 rfl (w1.heap.size + 1) 40 i0 (.int .u64 0) 1 8 Try.underlying48 hi hi0 hi1 hi2 rfl (by decide) _ _ _ rfl (O3.alloc _) ⟨w3.heap.size, 0, none⟩ 1 1 [.int .u64 (Xo.word ⟨x0, x1, x2, x3⟩).toNat] rfl rfl ?qa ?qb ?qc ?qd ?qe ?_)
      case qa => exact one_new _ _ _
      case qb => exact one_u64 _
      case qc => unfold maxLen; omega
      case qd => omega
      case qe => exact (by first | omega | (simp; done) | (simp; omega))
      · intro v' w4 hown' hgrow _
        have B4 : Boxes w4 [(w.heap.size, [.int .u64 (Xo.step ⟨x0, x1, x2, x3⟩).a.toNat, .int .u64 (Xo.step ⟨x0, x1, x2, x3⟩).b.toNat, .int .u64 (Xo.step ⟨x0, x1, x2, x3⟩).c.toNat, .int .u64 (Xo.step ⟨x0, x1, x2, x3⟩).d.toNat]), (w.heap.size + 1, [.int .u64 0, .int .u64 0, .int .u64 0, .int .u64 0]), (w1.heap.size, [.pointer (some ⟨w.heap.size, 0, none⟩)])] := (HB3.out.alloc _).appended (O3.alloc _) hgrow (by intro q hq; simp at hq; rcases hq with rfl | rfl | rfl <;> simp <;> omega)
        have b4 : Below w.heap.size w w4 := Below.grown (b3.alloc (by omega) _) hgrow (by simp; omega) (fun k e => by have := (O3.lt _ e).1; omega)
        have hz4 : w3.heap.size + 1 ≤ w4.heap.size := by have := hgrow.size; simpa using this
        have O4 : w4.ownsRow (w1.heap.size + 1) 40 1 v' (j + 1) (u64s (Xo.words (j + 1) ⟨s0, s1, s2, s3⟩)) := by
          rw [Xo.words_succ, hx.out, u64s_snoc]; exact hown'
        have HB4 := Lib.hid B4
        have HO4 := Lib.hid O4
        clear B4 O4 hown' hgrow HB3 O3 b3 HB2 HO2
        go_wp2
        go_roundw
        case rel => exact ⟨j + 1, Xo.step ⟨x0, x1, x2, x3⟩, by omega, by go_num, Lib.hid (by rw [Xo.it, hx.out]), HB4.out, HO4.out, by omega, b4⟩
        case measure => simp [intOf]; omega
    · obtain rfl : n = j := by omega
      go_wp2
      go_region
      all_goals go_wp2
      all_goals
        refine bodyPost_ret (v := .tuple #[u7, .agg #[.int .u64 x0.toNat, .int .u64 x1.toNat, .int .u64 x2.toNat, .int .u64 x3.toNat], .int .i64 0]) (by simp [results, Try.results30, go_sem, fcwr_r0, fcwr_r1, fcwr_r2, fcwr_r3]) rfl ?_
        exact ⟨_, by rw [hx.out], owns_mono (owns_grown (b := w.heap.size + 1) HO.out (by (repeat' (first | (with_reducible exact World.grownBy.refl _ _) | (with_reducible assumption) | (with_reducible refine gb_alloc ?_ _) | (with_reducible refine gb_drew ?_) | (with_reducible refine gb_drewN ?_ _) | (with_reducible refine gb_set ?_ ?_ _) | (with_reducible refine gb_below ?_ (by assumption)) | (exact Or.inl rfl) | (refine Or.inr ?_) | go_size))) (by omega)) (by omega), by (repeat' (first | (with_reducible exact Below.refl _ _) | (with_reducible assumption) | (with_reducible refine Below.alloc ?_ ?_ _) | (with_reducible refine Below.drew ?_) | (with_reducible refine below_drewN ?_ _) | (with_reducible refine Below.setCell ?_ ?_ _) | (with_reducible refine Below.trans ?_ (Below.mono (by assumption) ?_)) | go_size))⟩

set_option maxRecDepth 100000 in
theorem xwords_state (m : Int) (w : World) :
    Calls Try.prog 30 #[.agg #[.int .u64 0, .int .u64 0, .int .u64 0, .int .u64 0], .int .i64 m] w fun e w' =>
      e = .returned (.tuple #[.slice none 0 0, .agg #[.int .u64 0, .int .u64 0, .int .u64 0, .int .u64 0], .int .i64 3]) ∧ Below w.heap.size w w' := by
  have q : eq4 0 0 0 0 0 0 0 0 = true := eq4_self _ _ _ _
  go_enter Try.func30, Try.ntmps30
  go_wp2_with fail
  refine (xright_c 0#64 0#64 0#64 0#64 _).mono ?_
  rintro e w1 ⟨rfl, hb1⟩
  have hz1 := hb1.size; (try simp at hz1)
  have kc1w_heap_size___1_0 : w1.cell? ⟨w.heap.size + 1, 0, none⟩ = some (.int .u64 0) := (hb1.cell (p := ⟨w.heap.size + 1, 0, none⟩) (by first | omega | (simp; done) | (simp; omega))).trans (by go_simp); have kf1w_heap_size___1_0 : w1.frozen? ⟨w.heap.size + 1, 0, none⟩ = false := (hb1.frozen (p := ⟨w.heap.size + 1, 0, none⟩) (by first | omega | (simp; done) | (simp; omega))).trans (by go_simp); have kc1w_heap_size___1_1 : w1.cell? ⟨w.heap.size + 1, 1, none⟩ = some (.int .u64 0) := (hb1.cell (p := ⟨w.heap.size + 1, 1, none⟩) (by first | omega | (simp; done) | (simp; omega))).trans (by go_simp); have kf1w_heap_size___1_1 : w1.frozen? ⟨w.heap.size + 1, 1, none⟩ = false := (hb1.frozen (p := ⟨w.heap.size + 1, 1, none⟩) (by first | omega | (simp; done) | (simp; omega))).trans (by go_simp); have kc1w_heap_size___1_2 : w1.cell? ⟨w.heap.size + 1, 2, none⟩ = some (.int .u64 0) := (hb1.cell (p := ⟨w.heap.size + 1, 2, none⟩) (by first | omega | (simp; done) | (simp; omega))).trans (by go_simp); have kf1w_heap_size___1_2 : w1.frozen? ⟨w.heap.size + 1, 2, none⟩ = false := (hb1.frozen (p := ⟨w.heap.size + 1, 2, none⟩) (by first | omega | (simp; done) | (simp; omega))).trans (by go_simp); have kc1w_heap_size___1_3 : w1.cell? ⟨w.heap.size + 1, 3, none⟩ = some (.int .u64 0) := (hb1.cell (p := ⟨w.heap.size + 1, 3, none⟩) (by first | omega | (simp; done) | (simp; omega))).trans (by go_simp); have kf1w_heap_size___1_3 : w1.frozen? ⟨w.heap.size + 1, 3, none⟩ = false := (hb1.frozen (p := ⟨w.heap.size + 1, 3, none⟩) (by first | omega | (simp; done) | (simp; omega))).trans (by go_simp)
  have q' : eq4 ((0#64).toNat : Nat) ((0#64).toNat : Nat) ((0#64).toNat : Nat) ((0#64).toNat : Nat) 0 0 0 0 = true := eq4_self _ _ _ _
  rw [q']
  go_wp2
  all_goals go_wp2
  all_goals
    refine bodyPost_ret (v := .tuple #[.slice none 0 0, .agg #[.int .u64 0, .int .u64 0, .int .u64 0, .int .u64 0], .int .i64 3]) (by simp [results, Try.results30, go_sem, *]) rfl ?_
    exact ⟨rfl, by (repeat' (first | (with_reducible exact Below.refl _ _) | (with_reducible assumption) | (with_reducible refine Below.alloc ?_ ?_ _) | (with_reducible refine Below.drew ?_) | (with_reducible refine below_drewN ?_ _) | (with_reducible refine Below.setCell ?_ ?_ _) | (with_reducible refine Below.trans ?_ (Below.mono (by assumption) ?_)) | go_size))⟩

set_option maxRecDepth 100000 in
theorem xwords_arg (m : Int) (hm : m < 0 ∨ 256 < m) (s0 s1 s2 s3 : BitVec 64) (hs : (⟨s0, s1, s2, s3⟩ : St) ≠ Xo.zero) (w : World) :
    Calls Try.prog 30 #[.agg #[.int .u64 s0.toNat, .int .u64 s1.toNat, .int .u64 s2.toNat, .int .u64 s3.toNat], .int .i64 m] w fun e w' =>
      e = .returned (.tuple #[.slice none 0 0, .agg #[.int .u64 0, .int .u64 0, .int .u64 0, .int .u64 0], .int .i64 1]) ∧ Below w.heap.size w w' := by
  have q : eq4 s0.toNat s1.toNat s2.toNat s3.toNat 0 0 0 0 = false := by
    have := eq4_zero ⟨s0, s1, s2, s3⟩
    simp only at this
    rw [this]; simpa using hs
  rcases hm with hm | hm
  · go_enter Try.func30, Try.ntmps30
    go_wp2_with fail
    refine (xright_c _ _ _ _ _).mono ?_
    rintro e w1 ⟨rfl, hb1⟩
    have hz1 := hb1.size; (try simp at hz1)
    have kc1w_heap_size___1_0 : w1.cell? ⟨w.heap.size + 1, 0, none⟩ = some (.int .u64 0) := (hb1.cell (p := ⟨w.heap.size + 1, 0, none⟩) (by first | omega | (simp; done) | (simp; omega))).trans (by go_simp); have kf1w_heap_size___1_0 : w1.frozen? ⟨w.heap.size + 1, 0, none⟩ = false := (hb1.frozen (p := ⟨w.heap.size + 1, 0, none⟩) (by first | omega | (simp; done) | (simp; omega))).trans (by go_simp); have kc1w_heap_size___1_1 : w1.cell? ⟨w.heap.size + 1, 1, none⟩ = some (.int .u64 0) := (hb1.cell (p := ⟨w.heap.size + 1, 1, none⟩) (by first | omega | (simp; done) | (simp; omega))).trans (by go_simp); have kf1w_heap_size___1_1 : w1.frozen? ⟨w.heap.size + 1, 1, none⟩ = false := (hb1.frozen (p := ⟨w.heap.size + 1, 1, none⟩) (by first | omega | (simp; done) | (simp; omega))).trans (by go_simp); have kc1w_heap_size___1_2 : w1.cell? ⟨w.heap.size + 1, 2, none⟩ = some (.int .u64 0) := (hb1.cell (p := ⟨w.heap.size + 1, 2, none⟩) (by first | omega | (simp; done) | (simp; omega))).trans (by go_simp); have kf1w_heap_size___1_2 : w1.frozen? ⟨w.heap.size + 1, 2, none⟩ = false := (hb1.frozen (p := ⟨w.heap.size + 1, 2, none⟩) (by first | omega | (simp; done) | (simp; omega))).trans (by go_simp); have kc1w_heap_size___1_3 : w1.cell? ⟨w.heap.size + 1, 3, none⟩ = some (.int .u64 0) := (hb1.cell (p := ⟨w.heap.size + 1, 3, none⟩) (by first | omega | (simp; done) | (simp; omega))).trans (by go_simp); have kf1w_heap_size___1_3 : w1.frozen? ⟨w.heap.size + 1, 3, none⟩ = false := (hb1.frozen (p := ⟨w.heap.size + 1, 3, none⟩) (by first | omega | (simp; done) | (simp; omega))).trans (by go_simp)
    go_wp2
    all_goals go_wp2
    all_goals
      refine bodyPost_ret (v := .tuple #[.slice none 0 0, .agg #[.int .u64 0, .int .u64 0, .int .u64 0, .int .u64 0], .int .i64 1]) (by simp [results, Try.results30, go_sem, *]) rfl ?_
      exact ⟨rfl, by (repeat' (first | (with_reducible exact Below.refl _ _) | (with_reducible assumption) | (with_reducible refine Below.alloc ?_ ?_ _) | (with_reducible refine Below.drew ?_) | (with_reducible refine below_drewN ?_ _) | (with_reducible refine Below.setCell ?_ ?_ _) | (with_reducible refine Below.trans ?_ (Below.mono (by assumption) ?_)) | go_size))⟩
  · have h0 : ¬ m < 0 := by omega
    go_enter Try.func30, Try.ntmps30
    go_wp2_with fail
    refine (xright_c _ _ _ _ _).mono ?_
    rintro e w1 ⟨rfl, hb1⟩
    have hz1 := hb1.size; (try simp at hz1)
    have kc1w_heap_size___1_0 : w1.cell? ⟨w.heap.size + 1, 0, none⟩ = some (.int .u64 0) := (hb1.cell (p := ⟨w.heap.size + 1, 0, none⟩) (by first | omega | (simp; done) | (simp; omega))).trans (by go_simp); have kf1w_heap_size___1_0 : w1.frozen? ⟨w.heap.size + 1, 0, none⟩ = false := (hb1.frozen (p := ⟨w.heap.size + 1, 0, none⟩) (by first | omega | (simp; done) | (simp; omega))).trans (by go_simp); have kc1w_heap_size___1_1 : w1.cell? ⟨w.heap.size + 1, 1, none⟩ = some (.int .u64 0) := (hb1.cell (p := ⟨w.heap.size + 1, 1, none⟩) (by first | omega | (simp; done) | (simp; omega))).trans (by go_simp); have kf1w_heap_size___1_1 : w1.frozen? ⟨w.heap.size + 1, 1, none⟩ = false := (hb1.frozen (p := ⟨w.heap.size + 1, 1, none⟩) (by first | omega | (simp; done) | (simp; omega))).trans (by go_simp); have kc1w_heap_size___1_2 : w1.cell? ⟨w.heap.size + 1, 2, none⟩ = some (.int .u64 0) := (hb1.cell (p := ⟨w.heap.size + 1, 2, none⟩) (by first | omega | (simp; done) | (simp; omega))).trans (by go_simp); have kf1w_heap_size___1_2 : w1.frozen? ⟨w.heap.size + 1, 2, none⟩ = false := (hb1.frozen (p := ⟨w.heap.size + 1, 2, none⟩) (by first | omega | (simp; done) | (simp; omega))).trans (by go_simp); have kc1w_heap_size___1_3 : w1.cell? ⟨w.heap.size + 1, 3, none⟩ = some (.int .u64 0) := (hb1.cell (p := ⟨w.heap.size + 1, 3, none⟩) (by first | omega | (simp; done) | (simp; omega))).trans (by go_simp); have kf1w_heap_size___1_3 : w1.frozen? ⟨w.heap.size + 1, 3, none⟩ = false := (hb1.frozen (p := ⟨w.heap.size + 1, 3, none⟩) (by first | omega | (simp; done) | (simp; omega))).trans (by go_simp)
    go_wp2
    all_goals go_wp2
    all_goals
      refine bodyPost_ret (v := .tuple #[.slice none 0 0, .agg #[.int .u64 0, .int .u64 0, .int .u64 0, .int .u64 0], .int .i64 1]) (by simp [results, Try.results30, go_sem, *]) rfl ?_
      exact ⟨rfl, by (repeat' (first | (with_reducible exact Below.refl _ _) | (with_reducible assumption) | (with_reducible refine Below.alloc ?_ ?_ _) | (with_reducible refine Below.drew ?_) | (with_reducible refine below_drewN ?_ _) | (with_reducible refine Below.setCell ?_ ?_ _) | (with_reducible refine Below.trans ?_ (Below.mono (by assumption) ?_)) | go_size))⟩
end Go.Proofs.Ytpkfgpbneogijaa
