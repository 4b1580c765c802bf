/- xosh.Bits. -/
import Derived.Test.YtpkfgpbneogijaaXoC
namespace Go.Proofs.Ytpkfgpbneogijaa
open Go Go.RowKit

theorem and1 (x : BitVec 64) : bits .and .u64 (x.toNat : Int) 1 = (x.toNat : Int) % 2 := and_one_u64 _ (by omega) (by have := x.isLt; omega)
attribute [local go_sem] and1

set_option maxRecDepth 100000 in
theorem xbits_no (m : Int) (hm : m < 0 ∨ 2048 < m) (s0 s1 s2 s3 : BitVec 64) (w : World) :
    Calls Try.prog 31 #[.agg #[.int .u64 s0.toNat, .int .u64 s1.toNat, .int .u64 s2.toNat, .int .u64 s3.toNat], .int .i64 m] w fun e w' => e = .returned (.tuple #[.slice none 0 0, .int .i64 1]) ∧ Below w.heap.size w w' := by
  rcases hm with hm | hm
  · go_enter Try.func31, Try.ntmps31
    go_wp2
    go_ret2
    exact ⟨rfl, by (repeat' (first | (with_reducible exact Below.refl _ _) | (with_reducible assumption) | (with_reducible refine Below.alloc ?_ ?_ _) | (with_reducible refine Below.drew ?_) | (with_reducible refine below_drewN ?_ _) | (with_reducible refine Below.setCell ?_ ?_ _) | (with_reducible refine Below.trans ?_ (Below.mono (by assumption) ?_)) | go_size))⟩
  · have h0 : ¬ m < 0 := by omega
    go_enter Try.func31, Try.ntmps31
    go_wp2
    go_ret2
    exact ⟨rfl, by (repeat' (first | (with_reducible exact Below.refl _ _) | (with_reducible assumption) | (with_reducible refine Below.alloc ?_ ?_ _) | (with_reducible refine Below.drew ?_) | (with_reducible refine below_drewN ?_ _) | (with_reducible refine Below.setCell ?_ ?_ _) | (with_reducible refine Below.trans ?_ (Below.mono (by assumption) ?_)) | go_size))⟩

set_option maxRecDepth 100000 in
set_option maxHeartbeats 1000000 in
theorem xbits_ok (n : Nat) (hn : n ≤ 2048) (s0 s1 s2 s3 : BitVec 64) (w : World) :
    Calls Try.prog 31 #[.agg #[.int .u64 s0.toNat, .int .u64 s1.toNat, .int .u64 s2.toNat, .int .u64 s3.toNat], .int .i64 n] w (BitsPost n ⟨s0, s1, s2, s3⟩ w) := by
  obtain ⟨i0, hi, hi0, hi1, hi2⟩ := info_parts Try.infoBool
  have h0 : ¬ (n : Int) < 0 := by omega
  have h1 : ¬ (2048 : Int) < n := by omega
  go_enter Try.func31, Try.ntmps31
  go_wp2_with fail
  refine (steps7_c _ _).mono ?_
  rintro e w' ⟨rfl, rfl⟩
  have hB0 : Boxes ((w.alloc (.cells #[.int .u64 s0.toNat, .int .u64 s1.toNat, .int .u64 s2.toNat, .int .u64 s3.toNat] 42)).alloc (.cells #[.pointer (some ⟨w.heap.size, 0, none⟩)] 85)) [(w.heap.size, [.int .u64 s0.toNat, .int .u64 s1.toNat, .int .u64 s2.toNat, .int .u64 s3.toNat]), (w.heap.size + 1, [.pointer (some ⟨w.heap.size, 0, none⟩)])] := (Boxes.cons (box4 ⟨by go_simp, by go_simp, by go_simp, by go_simp⟩ ⟨by go_simp, by go_simp, by go_simp, by go_simp⟩) (Boxes.cons (box1 (by go_simp) (by go_simp)) (Boxes.nil _)))
  have hb0 : Below w.heap.size w ((w.alloc (.cells #[.int .u64 s0.toNat, .int .u64 s1.toNat, .int .u64 s2.toNat, .int .u64 s3.toNat] 42)).alloc (.cells #[.pointer (some ⟨w.heap.size, 0, none⟩)] 85)) := by (repeat' (first | (with_reducible exact Below.refl _ _) | (with_reducible assumption) | (with_reducible refine Below.alloc ?_ ?_ _) | (with_reducible refine Below.drew ?_) | (with_reducible refine below_drewN ?_ _) | (with_reducible refine Below.setCell ?_ ?_ _) | (with_reducible refine Below.trans ?_ (Below.mono (by assumption) ?_)) | go_size))
  have HB0 := Lib.hid hB0
  clear hB0
  go_wp2
  go_loopw [6, 16] (fun v i wr => ∃ (j : Nat) (x : St), j ≤ n ∧ i = .int .i64 j ∧ Hid (Xo.it j ⟨s0, s1, s2, s3⟩ = x) ∧ Boxes wr [(w.heap.size, [.int .u64 (x).a.toNat, .int .u64 (x).b.toNat, .int .u64 (x).c.toNat, .int .u64 (x).d.toNat]), (w.heap.size + 1, [.pointer (some ⟨w.heap.size, 0, none⟩)])] ∧
      wr.ownsRow (w.heap.size + 1 + 1) 4 1 v j (bools (Xo.bitsL j ⟨s0, s1, s2, s3⟩)) ∧ w.heap.size + 1 + 1 ≤ wr.heap.size ∧ Below w.heap.size w wr) (fun _ i _ => n - (intOf i).toNat)
  case atStart => exact ⟨0, ⟨s0, s1, s2, s3⟩, by omega, rfl, Lib.hid rfl, HB0.out, World.ownsRow_nil _ _ _ _, by simp, hb0⟩
  case round =>
    obtain ⟨j, ⟨x0, x1, x2, x3⟩, hj, rfl, hx, hB, hown, hz, hb⟩ := hrel
    have hBx : Boxes wr [(w.heap.size, [.int .u64 x0.toNat, .int .u64 x1.toNat, .int .u64 x2.toNat, .int .u64 x3.toNat]), (w.heap.size + 1, [.pointer (some ⟨w.heap.size, 0, none⟩)])] := hB
    clear hB
    have HO := Lib.hid hown
    clear hown
    have fcwr_y0 : wr.cell? ⟨w.heap.size, 0, none⟩ = some (.int .u64 x0.toNat) := (hBx.head 0 _ rfl).1; have ffwr_y0 : wr.frozen? ⟨w.heap.size, 0, none⟩ = false := (hBx.head 0 _ rfl).2; have fcwr_y1 : wr.cell? ⟨w.heap.size, 1, none⟩ = some (.int .u64 x1.toNat) := (hBx.head 1 _ rfl).1; have ffwr_y1 : wr.frozen? ⟨w.heap.size, 1, none⟩ = false := (hBx.head 1 _ rfl).2; have fcwr_y2 : wr.cell? ⟨w.heap.size, 2, none⟩ = some (.int .u64 x2.toNat) := (hBx.head 2 _ rfl).1; have ffwr_y2 : wr.frozen? ⟨w.heap.size, 2, none⟩ = false := (hBx.head 2 _ rfl).2; have fcwr_y3 : wr.cell? ⟨w.heap.size, 3, none⟩ = some (.int .u64 x3.toNat) := (hBx.head 3 _ rfl).1; have ffwr_y3 : wr.frozen? ⟨w.heap.size, 3, none⟩ = false := (hBx.head 3 _ rfl).2; have fcwr_p0 : wr.cell? ⟨w.heap.size + 1, 0, none⟩ = some (.pointer (some ⟨w.heap.size, 0, none⟩)) := (hBx.tail.head 0 _ rfl).1; have ffwr_p0 : wr.frozen? ⟨w.heap.size + 1, 0, none⟩ = false := (hBx.tail.head 0 _ rfl).2
    by_cases hlt : j < n
    · have ix : ∀ w, (Instr.index 42 (.agg #[.int .u64 x0.toNat, .int .u64 x1.toNat, .int .u64 x2.toNat, .int .u64 x3.toNat]) (.int .i64 0)).run Try.prog w = .ok (.int .u64 x0.toNat) w := fun _ => by kernel_rfl
      go_wp2_with fail
      refine (next7_c x0 x1 x2 x3 (w.heap.size + 1) w.heap.size (by omega) wr fcwr_p0 ⟨⟨fcwr_y0, fcwr_y1, fcwr_y2, fcwr_y3⟩, ⟨ffwr_y0, ffwr_y1, ffwr_y2, ffwr_y3⟩⟩).mono ?_
      rintro e w2 ⟨rfl, hbox, hg⟩
      have B2 : Boxes w2 [(w.heap.size, [.int .u64 (Xo.step ⟨x0, x1, x2, x3⟩).a.toNat, .int .u64 (Xo.step ⟨x0, x1, x2, x3⟩).b.toNat, .int .u64 (Xo.step ⟨x0, x1, x2, x3⟩).c.toNat, .int .u64 (Xo.step ⟨x0, x1, x2, x3⟩).d.toNat]), (w.heap.size + 1, [.pointer (some ⟨w.heap.size, 0, none⟩)])] := Boxes.cons (box4 hbox.1 hbox.2) (hBx.tail.grown hg (by intro q hq; simp at hq; rcases hq with rfl; simp))
      have O2 := owns_grown HO.out hg (by omega)
      have b2 : Below w.heap.size w w2 := below_gb hb hg (by omega) (Nat.le_refl _)
      have hz2 := hg.size
      have HB2 := Lib.hid B2
      clear B2 hbox hg HO hBx hb HB0 hb0
      go_wp2_with (at_builtin; refine wpList_append_own _ rfl _ _ 49 rfl (w.heap.size + 1 + 1) 4 i0 (.bool false) 1 1 Try.underlying49 hi hi0 hi1 hi2 rfl (by decide) _ _ _ rfl (O2.alloc _) ⟨w2.heap.size, 0, none⟩ 1 1 [.bool ((x0.toNat : Int) % 2 == 1)] rfl rfl ?qa ?qb ?qc ?qd ?qe ?_)
      case qa => exact one_new _ _ _
      case qb => exact one_bool _
      case qc => unfold maxLen; omega
      case qd => omega
      case qe => exact (by first | omega | (simp; done) | (simp; omega))
      · intro v' w4 hown' hgrow _
        have B4 : Boxes w4 [(w.heap.size, [.int .u64 (Xo.step ⟨x0, x1, x2, x3⟩).a.toNat, .int .u64 (Xo.step ⟨x0, x1, x2, x3⟩).b.toNat, .int .u64 (Xo.step ⟨x0, x1, x2, x3⟩).c.toNat, .int .u64 (Xo.step ⟨x0, x1, x2, x3⟩).d.toNat]), (w.heap.size + 1, [.pointer (some ⟨w.heap.size, 0, none⟩)])] := (HB2.out.alloc _).appended (O2.alloc _) hgrow (by intro q hq; simp at hq; rcases hq with rfl | rfl <;> simp <;> omega)
        have b4 : Below w.heap.size w w4 := Below.grown (b2.alloc (by omega) _) hgrow (by simp; omega) (fun k e => by have := (O2.lt _ e).1; omega)
        have hz4 : w2.heap.size + 1 ≤ w4.heap.size := by have := hgrow.size; simpa using this
        have O4 : w4.ownsRow (w.heap.size + 1 + 1) 4 1 v' (j + 1) (bools (Xo.bitsL (j + 1) ⟨s0, s1, s2, s3⟩)) := by
          rw [Xo.bits_succ, hx.out, bools_snoc]; exact hown'
        have HB4 := Lib.hid B4
        have HO4 := Lib.hid O4
        clear B4 O4 hown' hgrow HB2 O2 b2
        go_wp2
        go_roundw
        case rel => exact ⟨j + 1, Xo.step ⟨x0, x1, x2, x3⟩, by omega, by go_num, Lib.hid (by rw [Xo.it, hx.out]), HB4.out, HO4.out, by omega, b4⟩
        case measure => simp [intOf]; omega
    · obtain rfl : n = j := by omega
      go_wp2
      go_ret2
      exact ⟨_, rfl, owns_mono HO.out (by omega), hb⟩
end Go.Proofs.Ytpkfgpbneogijaa
