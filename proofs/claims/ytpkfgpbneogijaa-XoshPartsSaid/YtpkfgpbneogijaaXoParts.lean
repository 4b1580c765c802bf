/- XoshParts, walked. -/
import Derived.Test.YtpkfgpbneogijaaXoE
import Derived.Test.YtpkfgpbneogijaaCat
namespace Go.Proofs.Ytpkfgpbneogijaa
open Go Go.RowKit

theorem Xo.words_add (n m : Nat) (s : St) : Xo.words (n + m) s = Xo.words n s ++ Xo.words m (Xo.it n s) := by
  induction m with
  | zero => simp [Xo.words]
  | succ m ih => rw [← Nat.add_assoc, Xo.words_succ, ih, Xo.words_succ, Xo.it_add, List.append_assoc]

set_option maxRecDepth 100000 in
set_option maxHeartbeats 2000000 in
theorem xoshParts_main (s0 s1 s2 s3 : BitVec 64) (n m : Nat) (hn : n ≤ 128) (hm : m ≤ 128) (hs : (⟨s0, s1, s2, s3⟩ : St) ≠ Xo.zero) (w : World) :
    Calls Try.prog 10 #[.agg #[.int .u64 s0.toNat, .int .u64 s1.toNat, .int .u64 s2.toNat, .int .u64 s3.toNat], .int .u8 n, .int .u8 m] w fun e w' => e = .returned (.bool true) ∧ Below w.heap.size w w' := by
  obtain ⟨i0, hi, hi0, hi1, hi2⟩ := info_parts Try.infoU64
  have q : eq4 s0.toNat s1.toNat s2.toNat s3.toNat 0 0 0 0 = false := by
    have := eq4_zero ⟨s0, s1, s2, s3⟩
    simp only at this
    rw [this]; simpa using hs
  have hn1 : ¬ (128 : Int) < n := by omega
  have hm1 : ¬ (128 : Int) < m := by omega
  obtain ⟨x, hx⟩ : ∃ x, Xo.it n ⟨s0, s1, s2, s3⟩ = x := ⟨_, rfl⟩
  obtain ⟨y, hy⟩ : ∃ y, Xo.it m x = y := ⟨_, rfl⟩
  obtain ⟨la, hla⟩ : ∃ la, Xo.words n ⟨s0, s1, s2, s3⟩ = la := ⟨_, rfl⟩
  obtain ⟨lb, hlb⟩ : ∃ lb, Xo.words m x = lb := ⟨_, rfl⟩
  obtain ⟨x0, x1, x2, x3⟩ := x
  obtain ⟨y0, y1, y2, y3⟩ := y
  have hx0 : (⟨x0, x1, x2, x3⟩ : St) ≠ Xo.zero := by rw [← hx]; intro h; exact hs ((Xo.it_ne _ _).1 h)
  have hna : la.length = n := by rw [← hla, Xo.words_length]
  have hnb : lb.length = m := by rw [← hlb, Xo.words_length]
  have E := eq4_self y0.toNat y1.toNat y2.toNat y3.toNat
  have C1 : ∀ w, Calls Try.prog 30 #[.agg #[.int .u64 s0.toNat, .int .u64 s1.toNat, .int .u64 s2.toNat, .int .u64 s3.toNat], .int .i64 n] w fun e w' =>
      ∃ v, e = .returned (.tuple #[v, .agg #[.int .u64 x0.toNat, .int .u64 x1.toNat, .int .u64 x2.toNat, .int .u64 x3.toNat], .int .i64 0]) ∧ w'.ownsRow (w.heap.size + 1) 40 1 v n (u64s la) ∧ Below w.heap.size w w' := by
    intro w; have h := xwords_ok n (by omega) s0 s1 s2 s3 hs w; unfold WordsPost at h; rw [hx, hla] at h; exact h
  have C2 : ∀ w, Calls Try.prog 30 #[.agg #[.int .u64 x0.toNat, .int .u64 x1.toNat, .int .u64 x2.toNat, .int .u64 x3.toNat], .int .i64 m] w fun e w' =>
      ∃ v, e = .returned (.tuple #[v, .agg #[.int .u64 y0.toNat, .int .u64 y1.toNat, .int .u64 y2.toNat, .int .u64 y3.toNat], .int .i64 0]) ∧ w'.ownsRow (w.heap.size + 1) 40 1 v m (u64s lb) ∧ Below w.heap.size w w' := by
    intro w; have h := xwords_ok m (by omega) x0 x1 x2 x3 hx0 w; unfold WordsPost at h; rw [hy, hlb] at h; exact h
  have C3 : ∀ w, Calls Try.prog 30 #[.agg #[.int .u64 s0.toNat, .int .u64 s1.toNat, .int .u64 s2.toNat, .int .u64 s3.toNat], .int .i64 ((n : Int) + m)] w fun e w' =>
      ∃ v, e = .returned (.tuple #[v, .agg #[.int .u64 y0.toNat, .int .u64 y1.toNat, .int .u64 y2.toNat, .int .u64 y3.toNat], .int .i64 0]) ∧ w'.ownsRow (w.heap.size + 1) 40 1 v (n + m) (u64s (la ++ lb)) ∧ Below w.heap.size w w' := by
    intro w; have h := xwords_ok (n + m) (by omega) s0 s1 s2 s3 hs w; unfold WordsPost at h; rw [Xo.it_add, Xo.words_add, hx, hy, hla, hlb] at h; exact h
  have hab : (la ++ lb).length = n + m := by simp [hna, hnb]
  have D1 := Lib.hid C1
  have D2 := Lib.hid C2
  have D3 := Lib.hid C3
  clear hx hy hla hlb C1 C2 C3 hx0
  go_enter Try.func10, Try.ntmps10
  go_wp2_with fail
  refine (awake07_c _).mono ?_
  rintro e w1 ⟨rfl, hb1⟩
  have hz1 := hb1.size; (try simp at hz1)
  have kc1w_heap_size_0 : w1.cell? ⟨w.heap.size, 0, none⟩ = some (.int .u64 s0.toNat) := (hb1.cell (p := ⟨w.heap.size, 0, none⟩) (by first | omega | (simp; done) | (simp; omega))).trans (by go_simp); have kf1w_heap_size_0 : w1.frozen? ⟨w.heap.size, 0, none⟩ = false := (hb1.frozen (p := ⟨w.heap.size, 0, none⟩) (by first | omega | (simp; done) | (simp; omega))).trans (by go_simp); have kc1w_heap_size_1 : w1.cell? ⟨w.heap.size, 1, none⟩ = some (.int .u64 s1.toNat) := (hb1.cell (p := ⟨w.heap.size, 1, none⟩) (by first | omega | (simp; done) | (simp; omega))).trans (by go_simp); have kf1w_heap_size_1 : w1.frozen? ⟨w.heap.size, 1, none⟩ = false := (hb1.frozen (p := ⟨w.heap.size, 1, none⟩) (by first | omega | (simp; done) | (simp; omega))).trans (by go_simp); have kc1w_heap_size_2 : w1.cell? ⟨w.heap.size, 2, none⟩ = some (.int .u64 s2.toNat) := (hb1.cell (p := ⟨w.heap.size, 2, none⟩) (by first | omega | (simp; done) | (simp; omega))).trans (by go_simp); have kf1w_heap_size_2 : w1.frozen? ⟨w.heap.size, 2, none⟩ = false := (hb1.frozen (p := ⟨w.heap.size, 2, none⟩) (by first | omega | (simp; done) | (simp; omega))).trans (by go_simp); have kc1w_heap_size_3 : w1.cell? ⟨w.heap.size, 3, none⟩ = some (.int .u64 s3.toNat) := (hb1.cell (p := ⟨w.heap.size, 3, none⟩) (by first | omega | (simp; done) | (simp; omega))).trans (by go_simp); have kf1w_heap_size_3 : w1.frozen? ⟨w.heap.size, 3, none⟩ = false := (hb1.frozen (p := ⟨w.heap.size, 3, none⟩) (by first | omega | (simp; done) | (simp; omega))).trans (by go_simp)
  go_wp2_with fail
  refine (D1.out _).mono ?_
  rintro e w2 ⟨va, rfl, ha, hb2⟩
  have hz2 := hb2.size; (try simp at hz2)
  have kc2w_heap_size_0 : w2.cell? ⟨w.heap.size, 0, none⟩ = some (.int .u64 s0.toNat) := (hb2.cell (p := ⟨w.heap.size, 0, none⟩) (by first | omega | (simp; done) | (simp; omega))).trans (by go_simp); have kf2w_heap_size_0 : w2.frozen? ⟨w.heap.size, 0, none⟩ = false := (hb2.frozen (p := ⟨w.heap.size, 0, none⟩) (by first | omega | (simp; done) | (simp; omega))).trans (by go_simp); have kc2w_heap_size_1 : w2.cell? ⟨w.heap.size, 1, none⟩ = some (.int .u64 s1.toNat) := (hb2.cell (p := ⟨w.heap.size, 1, none⟩) (by first | omega | (simp; done) | (simp; omega))).trans (by go_simp); have kf2w_heap_size_1 : w2.frozen? ⟨w.heap.size, 1, none⟩ = false := (hb2.frozen (p := ⟨w.heap.size, 1, none⟩) (by first | omega | (simp; done) | (simp; omega))).trans (by go_simp); have kc2w_heap_size_2 : w2.cell? ⟨w.heap.size, 2, none⟩ = some (.int .u64 s2.toNat) := (hb2.cell (p := ⟨w.heap.size, 2, none⟩) (by first | omega | (simp; done) | (simp; omega))).trans (by go_simp); have kf2w_heap_size_2 : w2.frozen? ⟨w.heap.size, 2, none⟩ = false := (hb2.frozen (p := ⟨w.heap.size, 2, none⟩) (by first | omega | (simp; done) | (simp; omega))).trans (by go_simp); have kc2w_heap_size_3 : w2.cell? ⟨w.heap.size, 3, none⟩ = some (.int .u64 s3.toNat) := (hb2.cell (p := ⟨w.heap.size, 3, none⟩) (by first | omega | (simp; done) | (simp; omega))).trans (by go_simp); have kf2w_heap_size_3 : w2.frozen? ⟨w.heap.size, 3, none⟩ = false := (hb2.frozen (p := ⟨w.heap.size, 3, none⟩) (by first | omega | (simp; done) | (simp; omega))).trans (by go_simp)
  go_wp2_with fail
  refine (D2.out _).mono ?_
  rintro e w3 ⟨vb, rfl, hbr, hb3⟩
  have hz3 := hb3.size; (try simp at hz3)
  have kc3w_heap_size_0 : w3.cell? ⟨w.heap.size, 0, none⟩ = some (.int .u64 s0.toNat) := (hb3.cell (p := ⟨w.heap.size, 0, none⟩) (by first | omega | (simp; done) | (simp; omega))).trans (by go_simp); have kf3w_heap_size_0 : w3.frozen? ⟨w.heap.size, 0, none⟩ = false := (hb3.frozen (p := ⟨w.heap.size, 0, none⟩) (by first | omega | (simp; done) | (simp; omega))).trans (by go_simp); have kc3w_heap_size_1 : w3.cell? ⟨w.heap.size, 1, none⟩ = some (.int .u64 s1.toNat) := (hb3.cell (p := ⟨w.heap.size, 1, none⟩) (by first | omega | (simp; done) | (simp; omega))).trans (by go_simp); have kf3w_heap_size_1 : w3.frozen? ⟨w.heap.size, 1, none⟩ = false := (hb3.frozen (p := ⟨w.heap.size, 1, none⟩) (by first | omega | (simp; done) | (simp; omega))).trans (by go_simp); have kc3w_heap_size_2 : w3.cell? ⟨w.heap.size, 2, none⟩ = some (.int .u64 s2.toNat) := (hb3.cell (p := ⟨w.heap.size, 2, none⟩) (by first | omega | (simp; done) | (simp; omega))).trans (by go_simp); have kf3w_heap_size_2 : w3.frozen? ⟨w.heap.size, 2, none⟩ = false := (hb3.frozen (p := ⟨w.heap.size, 2, none⟩) (by first | omega | (simp; done) | (simp; omega))).trans (by go_simp); have kc3w_heap_size_3 : w3.cell? ⟨w.heap.size, 3, none⟩ = some (.int .u64 s3.toNat) := (hb3.cell (p := ⟨w.heap.size, 3, none⟩) (by first | omega | (simp; done) | (simp; omega))).trans (by go_simp); have kf3w_heap_size_3 : w3.frozen? ⟨w.heap.size, 3, none⟩ = false := (hb3.frozen (p := ⟨w.heap.size, 3, none⟩) (by first | omega | (simp; done) | (simp; omega))).trans (by go_simp)
  have kc3w2_heap_size_0 : w3.cell? ⟨w2.heap.size, 0, none⟩ = some (.int .u64 x0.toNat) := (hb3.cell (p := ⟨w2.heap.size, 0, none⟩) (by first | omega | (simp; done) | (simp; omega))).trans (by go_simp); have kf3w2_heap_size_0 : w3.frozen? ⟨w2.heap.size, 0, none⟩ = false := (hb3.frozen (p := ⟨w2.heap.size, 0, none⟩) (by first | omega | (simp; done) | (simp; omega))).trans (by go_simp); have kc3w2_heap_size_1 : w3.cell? ⟨w2.heap.size, 1, none⟩ = some (.int .u64 x1.toNat) := (hb3.cell (p := ⟨w2.heap.size, 1, none⟩) (by first | omega | (simp; done) | (simp; omega))).trans (by go_simp); have kf3w2_heap_size_1 : w3.frozen? ⟨w2.heap.size, 1, none⟩ = false := (hb3.frozen (p := ⟨w2.heap.size, 1, none⟩) (by first | omega | (simp; done) | (simp; omega))).trans (by go_simp); have kc3w2_heap_size_2 : w3.cell? ⟨w2.heap.size, 2, none⟩ = some (.int .u64 x2.toNat) := (hb3.cell (p := ⟨w2.heap.size, 2, none⟩) (by first | omega | (simp; done) | (simp; omega))).trans (by go_simp); have kf3w2_heap_size_2 : w3.frozen? ⟨w2.heap.size, 2, none⟩ = false := (hb3.frozen (p := ⟨w2.heap.size, 2, none⟩) (by first | omega | (simp; done) | (simp; omega))).trans (by go_simp); have kc3w2_heap_size_3 : w3.cell? ⟨w2.heap.size, 3, none⟩ = some (.int .u64 x3.toNat) := (hb3.cell (p := ⟨w2.heap.size, 3, none⟩) (by first | omega | (simp; done) | (simp; omega))).trans (by go_simp); have kf3w2_heap_size_3 : w3.frozen? ⟨w2.heap.size, 3, none⟩ = false := (hb3.frozen (p := ⟨w2.heap.size, 3, none⟩) (by first | omega | (simp; done) | (simp; omega))).trans (by go_simp)
  go_wp2_with fail
  refine (D3.out _).mono ?_
  rintro e w4 ⟨vc, rfl, hc, hb4⟩
  have hz4 := hb4.size; (try simp at hz4)
  have kc4w3_heap_size_0 : w4.cell? ⟨w3.heap.size, 0, none⟩ = some (.int .u64 y0.toNat) := (hb4.cell (p := ⟨w3.heap.size, 0, none⟩) (by first | omega | (simp; done) | (simp; omega))).trans (by go_simp); have kf4w3_heap_size_0 : w4.frozen? ⟨w3.heap.size, 0, none⟩ = false := (hb4.frozen (p := ⟨w3.heap.size, 0, none⟩) (by first | omega | (simp; done) | (simp; omega))).trans (by go_simp); have kc4w3_heap_size_1 : w4.cell? ⟨w3.heap.size, 1, none⟩ = some (.int .u64 y1.toNat) := (hb4.cell (p := ⟨w3.heap.size, 1, none⟩) (by first | omega | (simp; done) | (simp; omega))).trans (by go_simp); have kf4w3_heap_size_1 : w4.frozen? ⟨w3.heap.size, 1, none⟩ = false := (hb4.frozen (p := ⟨w3.heap.size, 1, none⟩) (by first | omega | (simp; done) | (simp; omega))).trans (by go_simp); have kc4w3_heap_size_2 : w4.cell? ⟨w3.heap.size, 2, none⟩ = some (.int .u64 y2.toNat) := (hb4.cell (p := ⟨w3.heap.size, 2, none⟩) (by first | omega | (simp; done) | (simp; omega))).trans (by go_simp); have kf4w3_heap_size_2 : w4.frozen? ⟨w3.heap.size, 2, none⟩ = false := (hb4.frozen (p := ⟨w3.heap.size, 2, none⟩) (by first | omega | (simp; done) | (simp; omega))).trans (by go_simp); have kc4w3_heap_size_3 : w4.cell? ⟨w3.heap.size, 3, none⟩ = some (.int .u64 y3.toNat) := (hb4.cell (p := ⟨w3.heap.size, 3, none⟩) (by first | omega | (simp; done) | (simp; omega))).trans (by go_simp); have kf4w3_heap_size_3 : w4.frozen? ⟨w3.heap.size, 3, none⟩ = false := (hb4.frozen (p := ⟨w3.heap.size, 3, none⟩) (by first | omega | (simp; done) | (simp; omega))).trans (by go_simp)
  have hbw : Below w.heap.size w (w4.alloc (.cells #[.int .u64 y0.toNat, .int .u64 y1.toNat, .int .u64 y2.toNat, .int .u64 y3.toNat] 42)) := by (repeat' (first | (with_reducible exact Below.refl _ _) | (with_reducible assumption) | (with_reducible refine Below.alloc ?_ ?_ _) | (with_reducible refine Below.drew ?_) | (with_reducible refine below_drewN ?_ _) | (with_reducible refine Below.setCell ?_ ?_ _) | (with_reducible refine Below.trans ?_ (Below.mono (by assumption) ?_)) | go_size))
  have HA : ∀ w', Below (w4.heap.size + 1) (w4.alloc (.cells #[.int .u64 y0.toNat, .int .u64 y1.toNat, .int .u64 y2.toNat, .int .u64 y3.toNat] 42)) w' → w'.ownsRow 0 40 1 va n (u64s la) := by
    intro w' h
    exact owns_below ((owns_below ((owns_below ((owns_mono ha (Nat.zero_le _)).alloc _) hb3).alloc _) hb4).alloc _) (by simpa using h)
  have HB : ∀ w', Below (w4.heap.size + 1) (w4.alloc (.cells #[.int .u64 y0.toNat, .int .u64 y1.toNat, .int .u64 y2.toNat, .int .u64 y3.toNat] 42)) w' → w'.ownsRow 0 40 1 vb m (u64s lb) := by
    intro w' h
    exact owns_below ((owns_below ((owns_mono hbr (Nat.zero_le _)).alloc _) hb4).alloc _) (by simpa using h)
  have HC : ∀ w', Below (w4.heap.size + 1) (w4.alloc (.cells #[.int .u64 y0.toNat, .int .u64 y1.toNat, .int .u64 y2.toNat, .int .u64 y3.toNat] 42)) w' → w'.ownsRow 0 40 1 vc (n + m) (u64s (la ++ lb)) := by
    intro w' h
    exact owns_below ((owns_mono hc (Nat.zero_le _)).alloc _) (by simpa using h)
  have HS : ∀ w', Below (w4.heap.size + 1) (w4.alloc (.cells #[.int .u64 y0.toNat, .int .u64 y1.toNat, .int .u64 y2.toNat, .int .u64 y3.toNat] 42)) w' →
      (w'.cell? ⟨w3.heap.size, 0, none⟩ = some (.int .u64 y0.toNat) ∧ w'.cell? ⟨w3.heap.size, 1, none⟩ = some (.int .u64 y1.toNat) ∧ w'.cell? ⟨w3.heap.size, 2, none⟩ = some (.int .u64 y2.toNat) ∧ w'.cell? ⟨w3.heap.size, 3, none⟩ = some (.int .u64 y3.toNat)) ∧
      (w'.cell? ⟨w4.heap.size, 0, none⟩ = some (.int .u64 y0.toNat) ∧ w'.cell? ⟨w4.heap.size, 1, none⟩ = some (.int .u64 y1.toNat) ∧ w'.cell? ⟨w4.heap.size, 2, none⟩ = some (.int .u64 y2.toNat) ∧ w'.cell? ⟨w4.heap.size, 3, none⟩ = some (.int .u64 y3.toNat)) := by
    intro w' h
    refine ⟨⟨?_, ?_, ?_, ?_⟩, ?_, ?_, ?_, ?_⟩ <;> refine (h.cell (by first | omega | (simp; done) | (simp; omega))).trans ?_ <;> go_simp
  have hA := Lib.hid HA
  have hB := Lib.hid HB
  have hC := Lib.hid HC
  have hS := Lib.hid HS
  have HW := Lib.hid hbw
  clear ha hbr hc hb1 hb2 hb3 hb4 HA HB HC HS hbw D1 D2 D3
  go_wp2_with (at_builtin; refine wpList_append_rows (by rfl) _ _ _ (by rfl) (w4.heap.size + 1) 40 i0 (.int .u64 0) 1 8 Try.underlying48 hi hi0 hi1 hi2 rfl (by decide) (.slice (some ⟨w4.heap.size + 1, 0, none⟩) 0 0) 0 [] (by rfl) ?qo va 0 n (u64s la) (by rfl) ?qa (u64s_one _) ?qc ?qd ?qe ?_)
  case qo => have h := World.ownsRow_made (base := w4.heap.size + 1) (e := 40) (size := 1) (w := (w4.alloc (.cells #[.int .u64 y0.toNat, .int .u64 y1.toNat, .int .u64 y2.toNat, .int .u64 y3.toNat] 42))) #[] 0 (by simp) (by decide) rfl; simpa using h
  case qa => exact hA.out _ (by (repeat' (first | (with_reducible exact Below.refl _ _) | (with_reducible assumption) | (with_reducible refine Below.alloc ?_ ?_ _) | (with_reducible refine Below.drew ?_) | (with_reducible refine below_drewN ?_ _) | (with_reducible refine Below.setCell ?_ ?_ _) | (with_reducible refine Below.trans ?_ (Below.mono (by assumption) ?_)) | go_size)))
  case qc => unfold maxLen; omega
  case qd => omega
  case qe => exact (by first | omega | (simp; done) | (simp; omega))
  · intro v5 w5 ho5 hb5
    have hz5 := hb5.size; (try simp at hz5)
    go_wp2_with (at_builtin; refine wpList_append_rows (by rfl) _ _ _ (by rfl) (w4.heap.size + 1) 40 i0 (.int .u64 0) 1 8 Try.underlying48 hi hi0 hi1 hi2 rfl (by decide) v5 _ _ (by rfl) ho5 vb 0 m (u64s lb) (by rfl) ?qa (u64s_one _) ?qc ?qd ?qe ?_)
    case qa => exact hB.out _ (by (repeat' (first | (with_reducible exact Below.refl _ _) | (with_reducible assumption) | (with_reducible refine Below.alloc ?_ ?_ _) | (with_reducible refine Below.drew ?_) | (with_reducible refine below_drewN ?_ _) | (with_reducible refine Below.setCell ?_ ?_ _) | (with_reducible refine Below.trans ?_ (Below.mono (by assumption) ?_)) | go_size)))
    case qc => unfold maxLen; omega
    case qd => omega
    case qe => omega
    intro v6 w6 ho6 hb6
    have hz6 := hb6.size; (try simp at hz6)
    go_wp2_with fail
    refine (words_same (la ++ lb) (by omega) v6 vc (w4.heap.size + 1) 0 _ ?_ ?_).mono ?_
    · rw [hab, u64s_append]; simpa using ho6
    · rw [hab]; exact hC.out _ (by (repeat' (first | (with_reducible exact Below.refl _ _) | (with_reducible assumption) | (with_reducible refine Below.alloc ?_ ?_ _) | (with_reducible refine Below.drew ?_) | (with_reducible refine below_drewN ?_ _) | (with_reducible refine Below.setCell ?_ ?_ _) | (with_reducible refine Below.trans ?_ (Below.mono (by assumption) ?_)) | go_size)))
    rintro e w7 ⟨rfl, hb7⟩
    have hz7 := hb7.size; (try simp at hz7)
    go_wp2
    go_ret
    exact ⟨rfl, HW.out.trans (Below.mono (B := w4.heap.size + 1) (by (repeat' (first | (with_reducible exact Below.refl _ _) | (with_reducible assumption) | (with_reducible refine Below.alloc ?_ ?_ _) | (with_reducible refine Below.drew ?_) | (with_reducible refine below_drewN ?_ _) | (with_reducible refine Below.setCell ?_ ?_ _) | (with_reducible refine Below.trans ?_ (Below.mono (by assumption) ?_)) | go_size))) (by omega))⟩

set_option maxRecDepth 100000 in
set_option maxHeartbeats 1000000 in
theorem xoshParts_walk (s0 s1 s2 s3 : BitVec 64) (n m : Nat) (hn : n < 256) (hm : m < 256) (w : World) :
    Calls Try.prog 10 #[.agg #[.int .u64 s0.toNat, .int .u64 s1.toNat, .int .u64 s2.toNat, .int .u64 s3.toNat], .int .u8 n, .int .u8 m] w fun e w' => e = .returned (.bool true) ∧ Below w.heap.size w w' := by
  by_cases hs : (⟨s0, s1, s2, s3⟩ : St) = Xo.zero ∨ 128 < n ∨ 128 < m
  · skip
    have go : (128 < n → False) → (128 < m → False) → eq4 s0.toNat s1.toNat s2.toNat s3.toNat 0 0 0 0 = true := by
      intro h1 h2
      have := eq4_zero ⟨s0, s1, s2, s3⟩
      simp only at this
      rw [this]
      rcases hs with hs | hs | hs
      · simpa using hs
      · exact (h1 hs).elim
      · exact (h2 hs).elim
    go_enter Try.func10, Try.ntmps10
    go_wp2_with fail
    refine (awake07_c _).mono ?_
    rintro e w1 ⟨rfl, hb1⟩
    have hz1 := hb1.size; (try simp at hz1)
    have kc1w_heap_size_0 : w1.cell? ⟨w.heap.size, 0, none⟩ = some (.int .u64 s0.toNat) := (hb1.cell (p := ⟨w.heap.size, 0, none⟩) (by first | omega | (simp; done) | (simp; omega))).trans (by go_simp); have kf1w_heap_size_0 : w1.frozen? ⟨w.heap.size, 0, none⟩ = false := (hb1.frozen (p := ⟨w.heap.size, 0, none⟩) (by first | omega | (simp; done) | (simp; omega))).trans (by go_simp); have kc1w_heap_size_1 : w1.cell? ⟨w.heap.size, 1, none⟩ = some (.int .u64 s1.toNat) := (hb1.cell (p := ⟨w.heap.size, 1, none⟩) (by first | omega | (simp; done) | (simp; omega))).trans (by go_simp); have kf1w_heap_size_1 : w1.frozen? ⟨w.heap.size, 1, none⟩ = false := (hb1.frozen (p := ⟨w.heap.size, 1, none⟩) (by first | omega | (simp; done) | (simp; omega))).trans (by go_simp); have kc1w_heap_size_2 : w1.cell? ⟨w.heap.size, 2, none⟩ = some (.int .u64 s2.toNat) := (hb1.cell (p := ⟨w.heap.size, 2, none⟩) (by first | omega | (simp; done) | (simp; omega))).trans (by go_simp); have kf1w_heap_size_2 : w1.frozen? ⟨w.heap.size, 2, none⟩ = false := (hb1.frozen (p := ⟨w.heap.size, 2, none⟩) (by first | omega | (simp; done) | (simp; omega))).trans (by go_simp); have kc1w_heap_size_3 : w1.cell? ⟨w.heap.size, 3, none⟩ = some (.int .u64 s3.toNat) := (hb1.cell (p := ⟨w.heap.size, 3, none⟩) (by first | omega | (simp; done) | (simp; omega))).trans (by go_simp); have kf1w_heap_size_3 : w1.frozen? ⟨w.heap.size, 3, none⟩ = false := (hb1.frozen (p := ⟨w.heap.size, 3, none⟩) (by first | omega | (simp; done) | (simp; omega))).trans (by go_simp)
    by_cases h1 : 128 < n
    · have h1' : (128 : Int) < n := by omega
      go_wp2_with fail
      go_ret
      exact ⟨rfl, by (repeat' (first | (with_reducible exact Below.refl _ _) | (with_reducible assumption) | (with_reducible refine Below.alloc ?_ ?_ _) | (with_reducible refine Below.drew ?_) | (with_reducible refine below_drewN ?_ _) | (with_reducible refine Below.setCell ?_ ?_ _) | (with_reducible refine Below.trans ?_ (Below.mono (by assumption) ?_)) | go_size))⟩
    · have h1' : ¬ (128 : Int) < n := by omega
      by_cases h2 : 128 < m
      · have h2' : (128 : Int) < m := by omega
        go_wp2_with fail
        go_ret
        exact ⟨rfl, by (repeat' (first | (with_reducible exact Below.refl _ _) | (with_reducible assumption) | (with_reducible refine Below.alloc ?_ ?_ _) | (with_reducible refine Below.drew ?_) | (with_reducible refine below_drewN ?_ _) | (with_reducible refine Below.setCell ?_ ?_ _) | (with_reducible refine Below.trans ?_ (Below.mono (by assumption) ?_)) | go_size))⟩
      · have h2' : ¬ (128 : Int) < m := by omega
        have q := go h1 h2
        go_wp2_with fail
        go_ret
        exact ⟨rfl, by (repeat' (first | (with_reducible exact Below.refl _ _) | (with_reducible assumption) | (with_reducible refine Below.alloc ?_ ?_ _) | (with_reducible refine Below.drew ?_) | (with_reducible refine below_drewN ?_ _) | (with_reducible refine Below.setCell ?_ ?_ _) | (with_reducible refine Below.trans ?_ (Below.mono (by assumption) ?_)) | go_size))⟩
  · simp only [not_or, Nat.not_lt] at hs
    exact xoshParts_main s0 s1 s2 s3 n m (by omega) (by omega) hs.1 w
end Go.Proofs.Ytpkfgpbneogijaa
