/- philox's awake. -/
import Derived.Test.YtpkfgpbneogijaaPhD
import Derived.Test.YtpkfgpbneogijaaEq
namespace Go.Proofs.Ytpkfgpbneogijaa
open Go Go.RowKit

set_option maxRecDepth 100000 in
theorem unmix_no (n : Int) (h : n < 0 ∨ 100 < n) (b0 b1 b2 b3 k0 k1 : BitVec 32) (w : World) :
    Calls Try.prog 22 #[.agg #[.int .u32 b0.toNat, .int .u32 b1.toNat, .int .u32 b2.toNat, .int .u32 b3.toNat], .agg #[.int .u32 k0.toNat, .int .u32 k1.toNat], .int .i64 n] w fun e w' =>
      e = .returned (.tuple #[.agg #[.int .u32 0, .int .u32 0, .int .u32 0, .int .u32 0], .int .i64 1]) ∧ Below w.heap.size w w' := by
  go_enter Try.func22, Try.ntmps22
  go_wp2_with fail
  refine (steps_no n h _ _ _).mono ?_
  rintro e w1 ⟨rfl, hb1⟩
  have hz1 := hb1.size; (try simp at hz1)
  have kc1w_heap_size___1___1_0 : w1.cell? ⟨w.heap.size + 1 + 1, 0, none⟩ = some (.int .u32 0) := (hb1.cell (p := ⟨w.heap.size + 1 + 1, 0, none⟩) (by first | omega | (simp; done) | (simp; omega))).trans (by go_simp); have kf1w_heap_size___1___1_0 : w1.frozen? ⟨w.heap.size + 1 + 1, 0, none⟩ = false := (hb1.frozen (p := ⟨w.heap.size + 1 + 1, 0, none⟩) (by first | omega | (simp; done) | (simp; omega))).trans (by go_simp); have kc1w_heap_size___1___1_1 : w1.cell? ⟨w.heap.size + 1 + 1, 1, none⟩ = some (.int .u32 0) := (hb1.cell (p := ⟨w.heap.size + 1 + 1, 1, none⟩) (by first | omega | (simp; done) | (simp; omega))).trans (by go_simp); have kf1w_heap_size___1___1_1 : w1.frozen? ⟨w.heap.size + 1 + 1, 1, none⟩ = false := (hb1.frozen (p := ⟨w.heap.size + 1 + 1, 1, none⟩) (by first | omega | (simp; done) | (simp; omega))).trans (by go_simp); have kc1w_heap_size___1___1_2 : w1.cell? ⟨w.heap.size + 1 + 1, 2, none⟩ = some (.int .u32 0) := (hb1.cell (p := ⟨w.heap.size + 1 + 1, 2, none⟩) (by first | omega | (simp; done) | (simp; omega))).trans (by go_simp); have kf1w_heap_size___1___1_2 : w1.frozen? ⟨w.heap.size + 1 + 1, 2, none⟩ = false := (hb1.frozen (p := ⟨w.heap.size + 1 + 1, 2, none⟩) (by first | omega | (simp; done) | (simp; omega))).trans (by go_simp); have kc1w_heap_size___1___1_3 : w1.cell? ⟨w.heap.size + 1 + 1, 3, none⟩ = some (.int .u32 0) := (hb1.cell (p := ⟨w.heap.size + 1 + 1, 3, none⟩) (by first | omega | (simp; done) | (simp; omega))).trans (by go_simp); have kf1w_heap_size___1___1_3 : w1.frozen? ⟨w.heap.size + 1 + 1, 3, none⟩ = false := (hb1.frozen (p := ⟨w.heap.size + 1 + 1, 3, none⟩) (by first | omega | (simp; done) | (simp; omega))).trans (by go_simp)
  go_wp2
  refine bodyPost_ret (v := .tuple #[.agg #[.int .u32 0, .int .u32 0, .int .u32 0, .int .u32 0], .int .i64 1]) (by simp [results, Try.results22, go_sem, *]) rfl ?_
  exact ⟨rfl, by (repeat' (first | (with_reducible exact Below.refl _ _) | (with_reducible assumption) | (with_reducible refine Below.alloc ?_ ?_ _) | (with_reducible refine Below.drew ?_) | (with_reducible refine below_drewN ?_ _) | (with_reducible refine Below.setCell ?_ ?_ _) | (with_reducible refine Below.trans ?_ (Below.mono (by assumption) ?_)) | go_size))⟩

set_option maxRecDepth 100000 in
theorem awake11_c (w : World) :
    Calls Try.prog 14 #[] w fun e w' => e = .returned (.bool true) ∧ Below w.heap.size w w' := by
  go_enter Try.func14, Try.ntmps14
  go_wp2_with fail
  refine (Calls.val (mix_ok 0 (by omega) 1#32 2#32 3#32 4#32 5#32 6#32 _) rfl (v' := .tuple #[.agg #[.int .u32 1, .int .u32 2, .int .u32 3, .int .u32 4], .int .i64 0]) rfl).mono ?_
  rintro e w1 ⟨rfl, hb1⟩
  have hz1 := hb1.size; (try simp at hz1)
  go_wp2_with fail
  refine (Calls.val (mix_no 101 (by omega) 1#32 2#32 3#32 4#32 0#32 0#32 _) rfl rfl).mono ?_
  rintro e w2 ⟨rfl, hb2⟩
  have hz2 := hb2.size; (try simp at hz2)
  have kc2w1_heap_size_0 : w2.cell? ⟨w1.heap.size, 0, none⟩ = some (.int .u32 1) := (hb2.cell (p := ⟨w1.heap.size, 0, none⟩) (by first | omega | (simp; done) | (simp; omega))).trans (by go_simp); have kf2w1_heap_size_0 : w2.frozen? ⟨w1.heap.size, 0, none⟩ = false := (hb2.frozen (p := ⟨w1.heap.size, 0, none⟩) (by first | omega | (simp; done) | (simp; omega))).trans (by go_simp); have kc2w1_heap_size_1 : w2.cell? ⟨w1.heap.size, 1, none⟩ = some (.int .u32 2) := (hb2.cell (p := ⟨w1.heap.size, 1, none⟩) (by first | omega | (simp; done) | (simp; omega))).trans (by go_simp); have kf2w1_heap_size_1 : w2.frozen? ⟨w1.heap.size, 1, none⟩ = false := (hb2.frozen (p := ⟨w1.heap.size, 1, none⟩) (by first | omega | (simp; done) | (simp; omega))).trans (by go_simp); have kc2w1_heap_size_2 : w2.cell? ⟨w1.heap.size, 2, none⟩ = some (.int .u32 3) := (hb2.cell (p := ⟨w1.heap.size, 2, none⟩) (by first | omega | (simp; done) | (simp; omega))).trans (by go_simp); have kf2w1_heap_size_2 : w2.frozen? ⟨w1.heap.size, 2, none⟩ = false := (hb2.frozen (p := ⟨w1.heap.size, 2, none⟩) (by first | omega | (simp; done) | (simp; omega))).trans (by go_simp); have kc2w1_heap_size_3 : w2.cell? ⟨w1.heap.size, 3, none⟩ = some (.int .u32 4) := (hb2.cell (p := ⟨w1.heap.size, 3, none⟩) (by first | omega | (simp; done) | (simp; omega))).trans (by go_simp); have kf2w1_heap_size_3 : w2.frozen? ⟨w1.heap.size, 3, none⟩ = false := (hb2.frozen (p := ⟨w1.heap.size, 3, none⟩) (by first | omega | (simp; done) | (simp; omega))).trans (by go_simp)
  go_wp2_with fail
  refine (Calls.val (unmix_no (-1) (by omega) 1#32 2#32 3#32 4#32 0#32 0#32 _) rfl rfl).mono ?_
  rintro e w3 ⟨rfl, hb3⟩
  have hz3 := hb3.size; (try simp at hz3)
  have kc3w1_heap_size_0 : w3.cell? ⟨w1.heap.size, 0, none⟩ = some (.int .u32 1) := (hb3.cell (p := ⟨w1.heap.size, 0, none⟩) (by first | omega | (simp; done) | (simp; omega))).trans (by go_simp); have kf3w1_heap_size_0 : w3.frozen? ⟨w1.heap.size, 0, none⟩ = false := (hb3.frozen (p := ⟨w1.heap.size, 0, none⟩) (by first | omega | (simp; done) | (simp; omega))).trans (by go_simp); have kc3w1_heap_size_1 : w3.cell? ⟨w1.heap.size, 1, none⟩ = some (.int .u32 2) := (hb3.cell (p := ⟨w1.heap.size, 1, none⟩) (by first | omega | (simp; done) | (simp; omega))).trans (by go_simp); have kf3w1_heap_size_1 : w3.frozen? ⟨w1.heap.size, 1, none⟩ = false := (hb3.frozen (p := ⟨w1.heap.size, 1, none⟩) (by first | omega | (simp; done) | (simp; omega))).trans (by go_simp); have kc3w1_heap_size_2 : w3.cell? ⟨w1.heap.size, 2, none⟩ = some (.int .u32 3) := (hb3.cell (p := ⟨w1.heap.size, 2, none⟩) (by first | omega | (simp; done) | (simp; omega))).trans (by go_simp); have kf3w1_heap_size_2 : w3.frozen? ⟨w1.heap.size, 2, none⟩ = false := (hb3.frozen (p := ⟨w1.heap.size, 2, none⟩) (by first | omega | (simp; done) | (simp; omega))).trans (by go_simp); have kc3w1_heap_size_3 : w3.cell? ⟨w1.heap.size, 3, none⟩ = some (.int .u32 4) := (hb3.cell (p := ⟨w1.heap.size, 3, none⟩) (by first | omega | (simp; done) | (simp; omega))).trans (by go_simp); have kf3w1_heap_size_3 : w3.frozen? ⟨w1.heap.size, 3, none⟩ = false := (hb3.frozen (p := ⟨w1.heap.size, 3, none⟩) (by first | omega | (simp; done) | (simp; omega))).trans (by go_simp)
  go_wp2_with fail
  refine (Calls.val (round_c 1#32 0#32 0#32 9#32 5#32 6#32 _) rfl (v' := .agg #[.int .u32 5, .int .u32 0, .int .u32 15, .int .u32 0xd2511f53]) rfl).mono ?_
  rintro e w4 ⟨rfl, hb4⟩
  have hz4 := hb4.size; (try simp at hz4)
  have kc4w1_heap_size_0 : w4.cell? ⟨w1.heap.size, 0, none⟩ = some (.int .u32 1) := (hb4.cell (p := ⟨w1.heap.size, 0, none⟩) (by first | omega | (simp; done) | (simp; omega))).trans (by go_simp); have kf4w1_heap_size_0 : w4.frozen? ⟨w1.heap.size, 0, none⟩ = false := (hb4.frozen (p := ⟨w1.heap.size, 0, none⟩) (by first | omega | (simp; done) | (simp; omega))).trans (by go_simp); have kc4w1_heap_size_1 : w4.cell? ⟨w1.heap.size, 1, none⟩ = some (.int .u32 2) := (hb4.cell (p := ⟨w1.heap.size, 1, none⟩) (by first | omega | (simp; done) | (simp; omega))).trans (by go_simp); have kf4w1_heap_size_1 : w4.frozen? ⟨w1.heap.size, 1, none⟩ = false := (hb4.frozen (p := ⟨w1.heap.size, 1, none⟩) (by first | omega | (simp; done) | (simp; omega))).trans (by go_simp); have kc4w1_heap_size_2 : w4.cell? ⟨w1.heap.size, 2, none⟩ = some (.int .u32 3) := (hb4.cell (p := ⟨w1.heap.size, 2, none⟩) (by first | omega | (simp; done) | (simp; omega))).trans (by go_simp); have kf4w1_heap_size_2 : w4.frozen? ⟨w1.heap.size, 2, none⟩ = false := (hb4.frozen (p := ⟨w1.heap.size, 2, none⟩) (by first | omega | (simp; done) | (simp; omega))).trans (by go_simp); have kc4w1_heap_size_3 : w4.cell? ⟨w1.heap.size, 3, none⟩ = some (.int .u32 4) := (hb4.cell (p := ⟨w1.heap.size, 3, none⟩) (by first | omega | (simp; done) | (simp; omega))).trans (by go_simp); have kf4w1_heap_size_3 : w4.frozen? ⟨w1.heap.size, 3, none⟩ = false := (hb4.frozen (p := ⟨w1.heap.size, 3, none⟩) (by first | omega | (simp; done) | (simp; omega))).trans (by go_simp)
  have kc4w3_heap_size_0 : w4.cell? ⟨w3.heap.size, 0, none⟩ = some (.int .u32 0) := (hb4.cell (p := ⟨w3.heap.size, 0, none⟩) (by first | omega | (simp; done) | (simp; omega))).trans (by go_simp); have kf4w3_heap_size_0 : w4.frozen? ⟨w3.heap.size, 0, none⟩ = false := (hb4.frozen (p := ⟨w3.heap.size, 0, none⟩) (by first | omega | (simp; done) | (simp; omega))).trans (by go_simp); have kc4w3_heap_size_1 : w4.cell? ⟨w3.heap.size, 1, none⟩ = some (.int .u32 0) := (hb4.cell (p := ⟨w3.heap.size, 1, none⟩) (by first | omega | (simp; done) | (simp; omega))).trans (by go_simp); have kf4w3_heap_size_1 : w4.frozen? ⟨w3.heap.size, 1, none⟩ = false := (hb4.frozen (p := ⟨w3.heap.size, 1, none⟩) (by first | omega | (simp; done) | (simp; omega))).trans (by go_simp); have kc4w3_heap_size_2 : w4.cell? ⟨w3.heap.size, 2, none⟩ = some (.int .u32 0) := (hb4.cell (p := ⟨w3.heap.size, 2, none⟩) (by first | omega | (simp; done) | (simp; omega))).trans (by go_simp); have kf4w3_heap_size_2 : w4.frozen? ⟨w3.heap.size, 2, none⟩ = false := (hb4.frozen (p := ⟨w3.heap.size, 2, none⟩) (by first | omega | (simp; done) | (simp; omega))).trans (by go_simp); have kc4w3_heap_size_3 : w4.cell? ⟨w3.heap.size, 3, none⟩ = some (.int .u32 0) := (hb4.cell (p := ⟨w3.heap.size, 3, none⟩) (by first | omega | (simp; done) | (simp; omega))).trans (by go_simp); have kf4w3_heap_size_3 : w4.frozen? ⟨w3.heap.size, 3, none⟩ = false := (hb4.frozen (p := ⟨w3.heap.size, 3, none⟩) (by first | omega | (simp; done) | (simp; omega))).trans (by go_simp)
  have q1 : eq4 1 2 3 4 1 2 3 4 = true := eq4_self _ _ _ _
  have q2 : eq4 5 0 15 3528531795 5 0 15 3528531795 = true := eq4_self _ _ _ _
  have q3 : eq4 1 0 0 9 1 0 0 9 = true := eq4_self _ _ _ _
  have q4 : eq2 2654435770 3144134279 2654435770 3144134279 = true := eq2_self _ _
  have q5 : eq4 1713891541 3781805453 3159862348 2600524760 1713891541 3781805453 3159862348 2600524760 = true := eq4_self _ _ _ _
  go_wp2_with fail
  refine (Calls.val (unround_c 5#32 0#32 15#32 0xd2511f53#32 5#32 6#32 _) rfl (v' := .agg #[.int .u32 1, .int .u32 0, .int .u32 0, .int .u32 9]) rfl).mono ?_
  rintro e w5 ⟨rfl, hb5⟩
  have hz5 := hb5.size; (try simp at hz5)
  go_wp2_with fail
  refine (Calls.val (next_c 1#32 2#32 _) rfl (v' := .agg #[.int .u32 2654435770, .int .u32 3144134279]) rfl).mono ?_
  rintro e w6 ⟨rfl, hb6⟩
  have hz6 := hb6.size; (try simp at hz6)
  go_wp2_with fail
  refine (Calls.val (out_c 0#32 0#32 0#32 0#32 0#32 0#32 _) rfl (v' := .agg #[.int .u32 1713891541, .int .u32 3781805453, .int .u32 3159862348, .int .u32 2600524760]) (by rw [show Ph.mix 10 ⟨0#32, 0#32, 0#32, 0#32⟩ ⟨0#32, 0#32⟩ = ⟨1713891541#32, 3781805453#32, 3159862348#32, 2600524760#32⟩ from by decide +kernel]; rfl)).mono ?_
  rintro e w7 ⟨rfl, hb7⟩
  have hz7 := hb7.size; (try simp at hz7)
  go_wp2
  go_ret
  exact ⟨rfl, by (repeat' (first | (with_reducible exact Below.refl _ _) | (with_reducible assumption) | (with_reducible refine Below.alloc ?_ ?_ _) | (with_reducible refine Below.drew ?_) | (with_reducible refine below_drewN ?_ _) | (with_reducible refine Below.setCell ?_ ?_ _) | (with_reducible refine Below.trans ?_ (Below.mono (by assumption) ?_)) | go_size))⟩
end Go.Proofs.Ytpkfgpbneogijaa
