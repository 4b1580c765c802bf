/- xosh's awake. -/
import Derived.Test.YtpkfgpbneogijaaXoD
import Derived.Test.YtpkfgpbneogijaaWords
import Derived.Test.YtpkfgpbneogijaaSame
namespace Go.Proofs.Ytpkfgpbneogijaa
open Go Go.RowKit

def AwWordsPost (w : World) (e : Ending) (w' : World) : Prop :=
  ∃ g cap, e = .returned (.tuple #[.slice (some ⟨g, 0, none⟩) 3 cap, .agg #[.int .u64 211106635448322, .int .u64 211106232532999, .int .u64 211140593188866, .int .u64 9223547958715220736], .int .i64 0]) ∧
    w'.ownsRow (w.heap.size + 1) 40 1 (.slice (some ⟨g, 0, none⟩) 3 cap) 3 (u64s [11520#64, 0#64, 1509978240#64]) ∧ Below w.heap.size w w'
theorem aw_words (w : World) : Calls Try.prog 30 #[.agg #[.int .u64 1, .int .u64 2, .int .u64 3, .int .u64 4], .int .i64 3] w (AwWordsPost w) := by
  have h := xwords_ok 3 (by omega) 1#64 2#64 3#64 4#64 (by decide) w
  refine Calls.mono h ?_
  rintro e w' ⟨v, rfl, ho, hb⟩
  have e1 : Xo.it 3 ⟨1#64, 2#64, 3#64, 4#64⟩ = ⟨211106635448322#64, 211106232532999#64, 211140593188866#64, 9223547958715220736#64⟩ := by decide +kernel
  have e2 : Xo.words 3 ⟨1#64, 2#64, 3#64, 4#64⟩ = [11520#64, 0#64, 1509978240#64] := by decide +kernel
  rw [e2] at ho
  rcases row_form ho with ⟨_, h0⟩ | ⟨g, cap, rfl, _⟩
  · cases h0
  · exact ⟨g, cap, by rw [e1]; rfl, ho, hb⟩
def AwBitsPost (w : World) (e : Ending) (w' : World) : Prop :=
  ∃ g cap, e = .returned (.tuple #[.slice (some ⟨g, 0, none⟩) 2 cap, .int .i64 0]) ∧
    w'.ownsRow (w.heap.size + 1) 4 1 (.slice (some ⟨g, 0, none⟩) 2 cap) 2 (bools [true, true]) ∧ Below w.heap.size w w'
theorem aw_bits (w : World) : Calls Try.prog 31 #[.agg #[.int .u64 1, .int .u64 2, .int .u64 3, .int .u64 4], .int .i64 2] w (AwBitsPost w) := by
  have h := xbits_ok 2 (by omega) 1#64 2#64 3#64 4#64 w
  refine Calls.mono h ?_
  rintro e w' ⟨v, rfl, ho, hb⟩
  have e2 : Xo.bitsL 2 ⟨1#64, 2#64, 3#64, 4#64⟩ = [true, true] := by decide +kernel
  rw [e2] at ho
  rcases row_form ho with ⟨_, h0⟩ | ⟨g, cap, rfl, _⟩
  · cases h0
  · exact ⟨g, cap, rfl, ho, hb⟩

set_option maxRecDepth 100000 in
set_option maxHeartbeats 2000000 in
theorem awake07_c (w : World) :
    Calls Try.prog 24 #[] w fun e w' => e = .returned (.bool true) ∧ Below w.heap.size w w' := by
  go_enter Try.func24, Try.ntmps24
  go_wp2_with fail
  refine (aw_words _).mono ?_
  rintro e w1 ⟨g1, k1, rfl, ho1, hb1⟩
  have hz1 := hb1.size
  have bw1 : Below w.heap.size w w1 := hb1
  have O1 := Lib.hid ho1
  clear ho1 hb1
  go_wp2_with fail
  refine (xwords_state 999 _).mono ?_
  rintro e w2 ⟨rfl, hb2⟩
  have hz2 := hb2.size; (try simp at hz2)
  have kc2w1_heap_size_0 : w2.cell? ⟨w1.heap.size, 0, none⟩ = some (.int .u64 211106635448322) := (hb2.cell (p := ⟨w1.heap.size, 0, none⟩) (by first | omega | (simp; done) | (simp; omega))).trans (by go_simp); have kf2w1_heap_size_0 : w2.frozen? ⟨w1.heap.size, 0, none⟩ = false := (hb2.frozen (p := ⟨w1.heap.size, 0, none⟩) (by first | omega | (simp; done) | (simp; omega))).trans (by go_simp); have kc2w1_heap_size_1 : w2.cell? ⟨w1.heap.size, 1, none⟩ = some (.int .u64 211106232532999) := (hb2.cell (p := ⟨w1.heap.size, 1, none⟩) (by first | omega | (simp; done) | (simp; omega))).trans (by go_simp); have kf2w1_heap_size_1 : w2.frozen? ⟨w1.heap.size, 1, none⟩ = false := (hb2.frozen (p := ⟨w1.heap.size, 1, none⟩) (by first | omega | (simp; done) | (simp; omega))).trans (by go_simp); have kc2w1_heap_size_2 : w2.cell? ⟨w1.heap.size, 2, none⟩ = some (.int .u64 211140593188866) := (hb2.cell (p := ⟨w1.heap.size, 2, none⟩) (by first | omega | (simp; done) | (simp; omega))).trans (by go_simp); have kf2w1_heap_size_2 : w2.frozen? ⟨w1.heap.size, 2, none⟩ = false := (hb2.frozen (p := ⟨w1.heap.size, 2, none⟩) (by first | omega | (simp; done) | (simp; omega))).trans (by go_simp); have kc2w1_heap_size_3 : w2.cell? ⟨w1.heap.size, 3, none⟩ = some (.int .u64 9223547958715220736) := (hb2.cell (p := ⟨w1.heap.size, 3, none⟩) (by first | omega | (simp; done) | (simp; omega))).trans (by go_simp); have kf2w1_heap_size_3 : w2.frozen? ⟨w1.heap.size, 3, none⟩ = false := (hb2.frozen (p := ⟨w1.heap.size, 3, none⟩) (by first | omega | (simp; done) | (simp; omega))).trans (by go_simp)
  have O2 := Lib.hid (owns_below (O1.out.alloc _) hb2)
  clear O1
  go_wp2_with fail
  refine (Calls.val (xwords_arg 257 (by omega) 1#64 0#64 0#64 0#64 (by decide) _) rfl rfl).mono ?_
  rintro e w3 ⟨rfl, hb3⟩
  have hz3 := hb3.size; (try simp at hz3)
  have kc3w1_heap_size_0 : w3.cell? ⟨w1.heap.size, 0, none⟩ = some (.int .u64 211106635448322) := (hb3.cell (p := ⟨w1.heap.size, 0, none⟩) (by first | omega | (simp; done) | (simp; omega))).trans (by go_simp); have kf3w1_heap_size_0 : w3.frozen? ⟨w1.heap.size, 0, none⟩ = false := (hb3.frozen (p := ⟨w1.heap.size, 0, none⟩) (by first | omega | (simp; done) | (simp; omega))).trans (by go_simp); have kc3w1_heap_size_1 : w3.cell? ⟨w1.heap.size, 1, none⟩ = some (.int .u64 211106232532999) := (hb3.cell (p := ⟨w1.heap.size, 1, none⟩) (by first | omega | (simp; done) | (simp; omega))).trans (by go_simp); have kf3w1_heap_size_1 : w3.frozen? ⟨w1.heap.size, 1, none⟩ = false := (hb3.frozen (p := ⟨w1.heap.size, 1, none⟩) (by first | omega | (simp; done) | (simp; omega))).trans (by go_simp); have kc3w1_heap_size_2 : w3.cell? ⟨w1.heap.size, 2, none⟩ = some (.int .u64 211140593188866) := (hb3.cell (p := ⟨w1.heap.size, 2, none⟩) (by first | omega | (simp; done) | (simp; omega))).trans (by go_simp); have kf3w1_heap_size_2 : w3.frozen? ⟨w1.heap.size, 2, none⟩ = false := (hb3.frozen (p := ⟨w1.heap.size, 2, none⟩) (by first | omega | (simp; done) | (simp; omega))).trans (by go_simp); have kc3w1_heap_size_3 : w3.cell? ⟨w1.heap.size, 3, none⟩ = some (.int .u64 9223547958715220736) := (hb3.cell (p := ⟨w1.heap.size, 3, none⟩) (by first | omega | (simp; done) | (simp; omega))).trans (by go_simp); have kf3w1_heap_size_3 : w3.frozen? ⟨w1.heap.size, 3, none⟩ = false := (hb3.frozen (p := ⟨w1.heap.size, 3, none⟩) (by first | omega | (simp; done) | (simp; omega))).trans (by go_simp)
  have O3 := Lib.hid (owns_below (O2.out.alloc _) hb3)
  clear O2
  go_wp2_with fail
  refine (aw_bits _).mono ?_
  rintro e w4 ⟨g4, k4, rfl, ho4, hb4⟩
  have hz4 := hb4.size; (try simp at hz4)
  have kc4w1_heap_size_0 : w4.cell? ⟨w1.heap.size, 0, none⟩ = some (.int .u64 211106635448322) := (hb4.cell (p := ⟨w1.heap.size, 0, none⟩) (by first | omega | (simp; done) | (simp; omega))).trans (by go_simp); have kf4w1_heap_size_0 : w4.frozen? ⟨w1.heap.size, 0, none⟩ = false := (hb4.frozen (p := ⟨w1.heap.size, 0, none⟩) (by first | omega | (simp; done) | (simp; omega))).trans (by go_simp); have kc4w1_heap_size_1 : w4.cell? ⟨w1.heap.size, 1, none⟩ = some (.int .u64 211106232532999) := (hb4.cell (p := ⟨w1.heap.size, 1, none⟩) (by first | omega | (simp; done) | (simp; omega))).trans (by go_simp); have kf4w1_heap_size_1 : w4.frozen? ⟨w1.heap.size, 1, none⟩ = false := (hb4.frozen (p := ⟨w1.heap.size, 1, none⟩) (by first | omega | (simp; done) | (simp; omega))).trans (by go_simp); have kc4w1_heap_size_2 : w4.cell? ⟨w1.heap.size, 2, none⟩ = some (.int .u64 211140593188866) := (hb4.cell (p := ⟨w1.heap.size, 2, none⟩) (by first | omega | (simp; done) | (simp; omega))).trans (by go_simp); have kf4w1_heap_size_2 : w4.frozen? ⟨w1.heap.size, 2, none⟩ = false := (hb4.frozen (p := ⟨w1.heap.size, 2, none⟩) (by first | omega | (simp; done) | (simp; omega))).trans (by go_simp); have kc4w1_heap_size_3 : w4.cell? ⟨w1.heap.size, 3, none⟩ = some (.int .u64 9223547958715220736) := (hb4.cell (p := ⟨w1.heap.size, 3, none⟩) (by first | omega | (simp; done) | (simp; omega))).trans (by go_simp); have kf4w1_heap_size_3 : w4.frozen? ⟨w1.heap.size, 3, none⟩ = false := (hb4.frozen (p := ⟨w1.heap.size, 3, none⟩) (by first | omega | (simp; done) | (simp; omega))).trans (by go_simp)
  have O4 := Lib.hid (owns_below (O3.out.alloc _) hb4)
  have P4 := Lib.hid ho4
  clear O3 ho4
  go_wp2_with fail
  refine (Calls.val (xbits_no 2049 (by omega) 0#64 0#64 0#64 0#64 _) rfl rfl).mono ?_
  rintro e w5 ⟨rfl, hb5⟩
  have hz5 := hb5.size; (try simp at hz5)
  have kc5w1_heap_size_0 : w5.cell? ⟨w1.heap.size, 0, none⟩ = some (.int .u64 211106635448322) := (hb5.cell (p := ⟨w1.heap.size, 0, none⟩) (by first | omega | (simp; done) | (simp; omega))).trans (by go_simp); have kf5w1_heap_size_0 : w5.frozen? ⟨w1.heap.size, 0, none⟩ = false := (hb5.frozen (p := ⟨w1.heap.size, 0, none⟩) (by first | omega | (simp; done) | (simp; omega))).trans (by go_simp); have kc5w1_heap_size_1 : w5.cell? ⟨w1.heap.size, 1, none⟩ = some (.int .u64 211106232532999) := (hb5.cell (p := ⟨w1.heap.size, 1, none⟩) (by first | omega | (simp; done) | (simp; omega))).trans (by go_simp); have kf5w1_heap_size_1 : w5.frozen? ⟨w1.heap.size, 1, none⟩ = false := (hb5.frozen (p := ⟨w1.heap.size, 1, none⟩) (by first | omega | (simp; done) | (simp; omega))).trans (by go_simp); have kc5w1_heap_size_2 : w5.cell? ⟨w1.heap.size, 2, none⟩ = some (.int .u64 211140593188866) := (hb5.cell (p := ⟨w1.heap.size, 2, none⟩) (by first | omega | (simp; done) | (simp; omega))).trans (by go_simp); have kf5w1_heap_size_2 : w5.frozen? ⟨w1.heap.size, 2, none⟩ = false := (hb5.frozen (p := ⟨w1.heap.size, 2, none⟩) (by first | omega | (simp; done) | (simp; omega))).trans (by go_simp); have kc5w1_heap_size_3 : w5.cell? ⟨w1.heap.size, 3, none⟩ = some (.int .u64 9223547958715220736) := (hb5.cell (p := ⟨w1.heap.size, 3, none⟩) (by first | omega | (simp; done) | (simp; omega))).trans (by go_simp); have kf5w1_heap_size_3 : w5.frozen? ⟨w1.heap.size, 3, none⟩ = false := (hb5.frozen (p := ⟨w1.heap.size, 3, none⟩) (by first | omega | (simp; done) | (simp; omega))).trans (by go_simp)
  have O5 := Lib.hid (owns_below O4.out hb5)
  have P5 := Lib.hid (owns_below P4.out hb5)
  clear O4 P4
  have q1 : eq4 211106635448322 211106232532999 211140593188866 9223547958715220736 0 0 0 0 = false := by decide
  have q2 : eq4 7 0 262146 211106232532992 7 0 262146 211106232532992 = true := eq4_self _ _ _ _
  have q3 : eq4 1 2 3 4 1 2 3 4 = true := eq4_self _ _ _ _
  have q4 : eq4 0 3 2 5 0 3 2 5 = true := eq4_self _ _ _ _
  have q5 : eq4 0 0 0 0 0 0 0 0 = true := eq4_self _ _ _ _
  go_wp2_with fail
  refine (words_same [11520#64, 0#64, 1509978240#64] (by simp) _ _ (w.heap.size + 1) 0 _ (O5.out.alloc _) (World.ownsRow_lit _ #[.int .u64 11520, .int .u64 0, .int .u64 1509978240] 3 (Nat.zero_le _) (by unfold maxLen; omega) rfl)).mono ?_
  rintro e w6 ⟨rfl, hb6⟩
  have hz6 := hb6.size; (try simp at hz6)
  have kc6w1_heap_size_0 : w6.cell? ⟨w1.heap.size, 0, none⟩ = some (.int .u64 211106635448322) := (hb6.cell (p := ⟨w1.heap.size, 0, none⟩) (by first | omega | (simp; done) | (simp; omega))).trans (by go_simp); have kf6w1_heap_size_0 : w6.frozen? ⟨w1.heap.size, 0, none⟩ = false := (hb6.frozen (p := ⟨w1.heap.size, 0, none⟩) (by first | omega | (simp; done) | (simp; omega))).trans (by go_simp); have kc6w1_heap_size_1 : w6.cell? ⟨w1.heap.size, 1, none⟩ = some (.int .u64 211106232532999) := (hb6.cell (p := ⟨w1.heap.size, 1, none⟩) (by first | omega | (simp; done) | (simp; omega))).trans (by go_simp); have kf6w1_heap_size_1 : w6.frozen? ⟨w1.heap.size, 1, none⟩ = false := (hb6.frozen (p := ⟨w1.heap.size, 1, none⟩) (by first | omega | (simp; done) | (simp; omega))).trans (by go_simp); have kc6w1_heap_size_2 : w6.cell? ⟨w1.heap.size, 2, none⟩ = some (.int .u64 211140593188866) := (hb6.cell (p := ⟨w1.heap.size, 2, none⟩) (by first | omega | (simp; done) | (simp; omega))).trans (by go_simp); have kf6w1_heap_size_2 : w6.frozen? ⟨w1.heap.size, 2, none⟩ = false := (hb6.frozen (p := ⟨w1.heap.size, 2, none⟩) (by first | omega | (simp; done) | (simp; omega))).trans (by go_simp); have kc6w1_heap_size_3 : w6.cell? ⟨w1.heap.size, 3, none⟩ = some (.int .u64 9223547958715220736) := (hb6.cell (p := ⟨w1.heap.size, 3, none⟩) (by first | omega | (simp; done) | (simp; omega))).trans (by go_simp); have kf6w1_heap_size_3 : w6.frozen? ⟨w1.heap.size, 3, none⟩ = false := (hb6.frozen (p := ⟨w1.heap.size, 3, none⟩) (by first | omega | (simp; done) | (simp; omega))).trans (by go_simp)
  have P6 := Lib.hid (owns_below (P5.out.alloc _) hb6)
  clear O5 P5
  go_wp2_with fail
  refine (same_same [true, true] (by simp) _ _ 0 0 _ (owns_mono (P6.out.alloc _) (Nat.zero_le _)) (World.ownsRow_lit _ #[.bool true, .bool true] 2 (Nat.zero_le _) (by unfold maxLen; omega) rfl)).mono ?_
  rintro e w7 ⟨rfl, hb7⟩
  have hz7 := hb7.size; (try simp at hz7)
  have kc7w1_heap_size_0 : w7.cell? ⟨w1.heap.size, 0, none⟩ = some (.int .u64 211106635448322) := (hb7.cell (p := ⟨w1.heap.size, 0, none⟩) (by first | omega | (simp; done) | (simp; omega))).trans (by go_simp); have kf7w1_heap_size_0 : w7.frozen? ⟨w1.heap.size, 0, none⟩ = false := (hb7.frozen (p := ⟨w1.heap.size, 0, none⟩) (by first | omega | (simp; done) | (simp; omega))).trans (by go_simp); have kc7w1_heap_size_1 : w7.cell? ⟨w1.heap.size, 1, none⟩ = some (.int .u64 211106232532999) := (hb7.cell (p := ⟨w1.heap.size, 1, none⟩) (by first | omega | (simp; done) | (simp; omega))).trans (by go_simp); have kf7w1_heap_size_1 : w7.frozen? ⟨w1.heap.size, 1, none⟩ = false := (hb7.frozen (p := ⟨w1.heap.size, 1, none⟩) (by first | omega | (simp; done) | (simp; omega))).trans (by go_simp); have kc7w1_heap_size_2 : w7.cell? ⟨w1.heap.size, 2, none⟩ = some (.int .u64 211140593188866) := (hb7.cell (p := ⟨w1.heap.size, 2, none⟩) (by first | omega | (simp; done) | (simp; omega))).trans (by go_simp); have kf7w1_heap_size_2 : w7.frozen? ⟨w1.heap.size, 2, none⟩ = false := (hb7.frozen (p := ⟨w1.heap.size, 2, none⟩) (by first | omega | (simp; done) | (simp; omega))).trans (by go_simp); have kc7w1_heap_size_3 : w7.cell? ⟨w1.heap.size, 3, none⟩ = some (.int .u64 9223547958715220736) := (hb7.cell (p := ⟨w1.heap.size, 3, none⟩) (by first | omega | (simp; done) | (simp; omega))).trans (by go_simp); have kf7w1_heap_size_3 : w7.frozen? ⟨w1.heap.size, 3, none⟩ = false := (hb7.frozen (p := ⟨w1.heap.size, 3, none⟩) (by first | omega | (simp; done) | (simp; omega))).trans (by go_simp)
  clear P6
  go_wp2_with fail
  refine (Calls.val (xstep_c 1#64 2#64 3#64 4#64 _) rfl (v' := .agg #[.int .u64 7, .int .u64 0, .int .u64 262146, .int .u64 211106232532992]) (by rw [show Xo.step ⟨1#64, 2#64, 3#64, 4#64⟩ = ⟨7#64, 0#64, 262146#64, 211106232532992#64⟩ from by decide +kernel]; rfl)).mono ?_
  rintro e w8 ⟨rfl, hb8⟩
  have hz8 := hb8.size; (try simp at hz8)
  have kc8w1_heap_size_0 : w8.cell? ⟨w1.heap.size, 0, none⟩ = some (.int .u64 211106635448322) := (hb8.cell (p := ⟨w1.heap.size, 0, none⟩) (by first | omega | (simp; done) | (simp; omega))).trans (by go_simp); have kf8w1_heap_size_0 : w8.frozen? ⟨w1.heap.size, 0, none⟩ = false := (hb8.frozen (p := ⟨w1.heap.size, 0, none⟩) (by first | omega | (simp; done) | (simp; omega))).trans (by go_simp); have kc8w1_heap_size_1 : w8.cell? ⟨w1.heap.size, 1, none⟩ = some (.int .u64 211106232532999) := (hb8.cell (p := ⟨w1.heap.size, 1, none⟩) (by first | omega | (simp; done) | (simp; omega))).trans (by go_simp); have kf8w1_heap_size_1 : w8.frozen? ⟨w1.heap.size, 1, none⟩ = false := (hb8.frozen (p := ⟨w1.heap.size, 1, none⟩) (by first | omega | (simp; done) | (simp; omega))).trans (by go_simp); have kc8w1_heap_size_2 : w8.cell? ⟨w1.heap.size, 2, none⟩ = some (.int .u64 211140593188866) := (hb8.cell (p := ⟨w1.heap.size, 2, none⟩) (by first | omega | (simp; done) | (simp; omega))).trans (by go_simp); have kf8w1_heap_size_2 : w8.frozen? ⟨w1.heap.size, 2, none⟩ = false := (hb8.frozen (p := ⟨w1.heap.size, 2, none⟩) (by first | omega | (simp; done) | (simp; omega))).trans (by go_simp); have kc8w1_heap_size_3 : w8.cell? ⟨w1.heap.size, 3, none⟩ = some (.int .u64 9223547958715220736) := (hb8.cell (p := ⟨w1.heap.size, 3, none⟩) (by first | omega | (simp; done) | (simp; omega))).trans (by go_simp); have kf8w1_heap_size_3 : w8.frozen? ⟨w1.heap.size, 3, none⟩ = false := (hb8.frozen (p := ⟨w1.heap.size, 3, none⟩) (by first | omega | (simp; done) | (simp; omega))).trans (by go_simp)
  go_wp2_with fail
  refine (Calls.val (xback_c 7#64 0#64 262146#64 211106232532992#64 _) rfl (v' := .agg #[.int .u64 1, .int .u64 2, .int .u64 3, .int .u64 4]) (by rw [show Xo.back ⟨7#64, 0#64, 262146#64, 211106232532992#64⟩ = ⟨1#64, 2#64, 3#64, 4#64⟩ from by decide +kernel]; rfl)).mono ?_
  rintro e w9 ⟨rfl, hb9⟩
  have hz9 := hb9.size; (try simp at hz9)
  have kc9w1_heap_size_0 : w9.cell? ⟨w1.heap.size, 0, none⟩ = some (.int .u64 211106635448322) := (hb9.cell (p := ⟨w1.heap.size, 0, none⟩) (by first | omega | (simp; done) | (simp; omega))).trans (by go_simp); have kf9w1_heap_size_0 : w9.frozen? ⟨w1.heap.size, 0, none⟩ = false := (hb9.frozen (p := ⟨w1.heap.size, 0, none⟩) (by first | omega | (simp; done) | (simp; omega))).trans (by go_simp); have kc9w1_heap_size_1 : w9.cell? ⟨w1.heap.size, 1, none⟩ = some (.int .u64 211106232532999) := (hb9.cell (p := ⟨w1.heap.size, 1, none⟩) (by first | omega | (simp; done) | (simp; omega))).trans (by go_simp); have kf9w1_heap_size_1 : w9.frozen? ⟨w1.heap.size, 1, none⟩ = false := (hb9.frozen (p := ⟨w1.heap.size, 1, none⟩) (by first | omega | (simp; done) | (simp; omega))).trans (by go_simp); have kc9w1_heap_size_2 : w9.cell? ⟨w1.heap.size, 2, none⟩ = some (.int .u64 211140593188866) := (hb9.cell (p := ⟨w1.heap.size, 2, none⟩) (by first | omega | (simp; done) | (simp; omega))).trans (by go_simp); have kf9w1_heap_size_2 : w9.frozen? ⟨w1.heap.size, 2, none⟩ = false := (hb9.frozen (p := ⟨w1.heap.size, 2, none⟩) (by first | omega | (simp; done) | (simp; omega))).trans (by go_simp); have kc9w1_heap_size_3 : w9.cell? ⟨w1.heap.size, 3, none⟩ = some (.int .u64 9223547958715220736) := (hb9.cell (p := ⟨w1.heap.size, 3, none⟩) (by first | omega | (simp; done) | (simp; omega))).trans (by go_simp); have kf9w1_heap_size_3 : w9.frozen? ⟨w1.heap.size, 3, none⟩ = false := (hb9.frozen (p := ⟨w1.heap.size, 3, none⟩) (by first | omega | (simp; done) | (simp; omega))).trans (by go_simp)
  go_wp2_with fail
  refine (Calls.val (xadd_c 1#64 2#64 3#64 4#64 1#64 1#64 1#64 1#64 _) rfl (v' := .agg #[.int .u64 0, .int .u64 3, .int .u64 2, .int .u64 5]) (by rw [show Xo.add ⟨1#64, 2#64, 3#64, 4#64⟩ ⟨1#64, 1#64, 1#64, 1#64⟩ = ⟨0#64, 3#64, 2#64, 5#64⟩ from by decide +kernel]; rfl)).mono ?_
  rintro e w10 ⟨rfl, hb10⟩
  have hz10 := hb10.size; (try simp at hz10)
  have kc10w1_heap_size_0 : w10.cell? ⟨w1.heap.size, 0, none⟩ = some (.int .u64 211106635448322) := (hb10.cell (p := ⟨w1.heap.size, 0, none⟩) (by first | omega | (simp; done) | (simp; omega))).trans (by go_simp); have kf10w1_heap_size_0 : w10.frozen? ⟨w1.heap.size, 0, none⟩ = false := (hb10.frozen (p := ⟨w1.heap.size, 0, none⟩) (by first | omega | (simp; done) | (simp; omega))).trans (by go_simp); have kc10w1_heap_size_1 : w10.cell? ⟨w1.heap.size, 1, none⟩ = some (.int .u64 211106232532999) := (hb10.cell (p := ⟨w1.heap.size, 1, none⟩) (by first | omega | (simp; done) | (simp; omega))).trans (by go_simp); have kf10w1_heap_size_1 : w10.frozen? ⟨w1.heap.size, 1, none⟩ = false := (hb10.frozen (p := ⟨w1.heap.size, 1, none⟩) (by first | omega | (simp; done) | (simp; omega))).trans (by go_simp); have kc10w1_heap_size_2 : w10.cell? ⟨w1.heap.size, 2, none⟩ = some (.int .u64 211140593188866) := (hb10.cell (p := ⟨w1.heap.size, 2, none⟩) (by first | omega | (simp; done) | (simp; omega))).trans (by go_simp); have kf10w1_heap_size_2 : w10.frozen? ⟨w1.heap.size, 2, none⟩ = false := (hb10.frozen (p := ⟨w1.heap.size, 2, none⟩) (by first | omega | (simp; done) | (simp; omega))).trans (by go_simp); have kc10w1_heap_size_3 : w10.cell? ⟨w1.heap.size, 3, none⟩ = some (.int .u64 9223547958715220736) := (hb10.cell (p := ⟨w1.heap.size, 3, none⟩) (by first | omega | (simp; done) | (simp; omega))).trans (by go_simp); have kf10w1_heap_size_3 : w10.frozen? ⟨w1.heap.size, 3, none⟩ = false := (hb10.frozen (p := ⟨w1.heap.size, 3, none⟩) (by first | omega | (simp; done) | (simp; omega))).trans (by go_simp)
  go_wp2_with fail
  refine (Calls.val (xright_c 211106635448322#64 211106232532999#64 211140593188866#64 9223547958715220736#64 _) rfl (v' := .bool true) (congrArg Value.bool (by decide))).mono ?_
  rintro e w11 ⟨rfl, hb11⟩
  have hz11 := hb11.size
  go_wp2_with fail
  refine (Calls.val (xright_c 0#64 0#64 0#64 0#64 _) rfl (v' := .bool false) (congrArg Value.bool (by decide))).mono ?_
  rintro e w12 ⟨rfl, hb12⟩
  go_wp2
  go_ret
  exact ⟨rfl, by (repeat' (first | (with_reducible exact Below.refl _ _) | (with_reducible assumption) | (with_reducible refine Below.alloc ?_ ?_ _) | (with_reducible refine Below.drew ?_) | (with_reducible refine below_drewN ?_ _) | (with_reducible refine Below.setCell ?_ ?_ _) | (with_reducible refine Below.trans ?_ (Below.mono (by assumption) ?_)) | go_size))⟩
end Go.Proofs.Ytpkfgpbneogijaa
