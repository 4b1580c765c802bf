/- mix's awake. -/
import Derived.Test.YtmihcjbnieoodaaMxE
import Derived.Test.YtmihcjbnieoodaaWords
namespace Go.Proofs.Ytmihcjbnieoodaa
open Go Go.RowKit

def AwMxPost (w : World) (e : Ending) (w' : World) : Prop :=
  ∃ g cap, e = .returned (.tuple #[.slice (some ⟨g, 0, none⟩) 2 cap, .int .u64 4354685564936845354, .int .i64 0]) ∧
    w'.ownsRow w.heap.size 22 1 (.slice (some ⟨g, 0, none⟩) 2 cap) 2 (u64s [0xe220a8397b1dcdaf#64, 0x6e789e6aa1b965f4#64]) ∧ Below w.heap.size w w'
theorem aw_mwords (w : World) : Calls Try.prog 16 #[.int .u64 0, .int .i64 2] w (AwMxPost w) := by
  have h := mwords_ok 2 (by omega) 0#64 w
  refine Calls.mono h ?_
  rintro e w' ⟨v, rfl, ho, hb⟩
  have e1 : Mx.it 2 0#64 = 4354685564936845354#64 := by decide +kernel
  have e2 : Mx.words 2 0#64 = [0xe220a8397b1dcdaf#64, 0x6e789e6aa1b965f4#64] := by decide +kernel
  rw [e2] at ho
  rcases row_form ho with ⟨_, h0⟩ | ⟨g, cap, rfl, _⟩
  · cases h0
  · exact ⟨g, cap, by rw [e1]; rfl, ho, hb⟩

set_option maxRecDepth 100000 in
set_option maxHeartbeats 2000000 in
theorem awake06_c (w : World) :
    Calls Try.prog 15 #[] w fun e w' => e = .returned (.bool true) ∧ Below w.heap.size w w' := by
  go_enter Try.func15, Try.ntmps15
  go_wp2_with fail
  refine (aw_mwords _).mono ?_
  rintro e w1 ⟨g1, k1, rfl, ho1, hb1⟩
  have hz1 := hb1.size
  have O1 := Lib.hid ho1
  clear ho1
  go_wp2_with fail
  refine (Calls.val (mwords_no 257 (by omega) 0#64 _) rfl rfl).mono ?_
  rintro e w2 ⟨rfl, hb2⟩
  have hz2 := hb2.size
  have O2 := Lib.hid (owns_below O1.out hb2)
  clear O1
  go_wp2_with fail
  refine (Calls.val (mwords_no (-1) (by omega) 0#64 _) rfl rfl).mono ?_
  rintro e w3 ⟨rfl, hb3⟩
  have hz3 := hb3.size
  have O3 := Lib.hid (owns_below O2.out hb3)
  clear O2
  go_wp2_with fail
  refine (words_same [0xe220a8397b1dcdaf#64, 0x6e789e6aa1b965f4#64] (by simp) _ _ w.heap.size 0 _ (O3.out.alloc _) (World.ownsRow_lit _ #[.int .u64 16294208416658607535, .int .u64 7960286522194355700] 2 (Nat.zero_le _) (by unfold maxLen; omega) rfl)).mono ?_
  rintro e w4 ⟨rfl, hb4⟩
  have hz4 := hb4.size; (try simp at hz4)
  clear O3
  go_wp2_with fail
  refine (Calls.val (munmix_c 0xe220a8397b1dcdaf#64 _) rfl (v' := .int .u64 11400714819323198485) (by rw [show Mx.unmix 0xe220a8397b1dcdaf#64 = 11400714819323198485#64 from by decide +kernel]; rfl)).mono ?_
  rintro e w5 ⟨rfl, hb5⟩
  have hz5 := hb5.size
  go_wp2_with fail
  refine (Calls.val (mmix_c 0#64 _) rfl (v' := .int .u64 0) (by rw [show Mx.mix 0#64 = 0#64 from by decide +kernel]; rfl)).mono ?_
  rintro e w6 ⟨rfl, hb6⟩
  have hz6 := hb6.size
  go_wp2_with fail
  refine (Calls.val (mback_c 0#64 _) rfl (v' := .int .u64 7046029254386353131) (by rw [show Mx.back 0#64 = 7046029254386353131#64 from by decide +kernel]; rfl)).mono ?_
  rintro e w' ⟨rfl, rfl⟩
  go_wp2_with fail
  refine (Calls.val (mstep_c 0#64 _) rfl (v' := .int .u64 11400714819323198485) (by rw [show Mx.step 0#64 = 11400714819323198485#64 from by decide +kernel]; rfl)).mono ?_
  rintro e w' ⟨rfl, rfl⟩
  go_wp2_with fail
  refine (Calls.val (wofV_c 2#64 _) rfl rfl).mono ?_
  rintro e w7 ⟨rfl, hb7⟩
  have hz7 := hb7.size
  go_wp2_with fail
  refine (Calls.val (mjump_c 5#64 (Wd.of 2#64) _) rfl (v' := .int .u64 4354685564936845359) (by rw [show Mx.jump 5#64 (Wd.lo (Wd.of 2#64)) = 4354685564936845359#64 from by decide +kernel]; rfl)).mono ?_
  rintro e w8 ⟨rfl, hb8⟩
  have hz8 := hb8.size
  go_wp2_with fail
  refine (Calls.val (mjump_c 5#64 (Wd.mk 9#64 0#64) _) (by rw [Wd.hi_mk, Wd.lo_mk]; rfl) (v' := .int .u64 5) (by rw [show Mx.jump 5#64 (Wd.lo (Wd.mk 9#64 0#64)) = 5#64 from by decide +kernel]; rfl)).mono ?_
  rintro e w9 ⟨rfl, hb9⟩
  go_wp2
  go_ret
  exact ⟨rfl, by (repeat' (first | (with_reducible exact Below.refl _ _) | (with_reducible assumption) | (with_reducible refine Below.alloc ?_ ?_ _) | (with_reducible refine Below.drew ?_) | (with_reducible refine below_drewN ?_ _) | (with_reducible refine Below.setCell ?_ ?_ _) | (with_reducible refine Below.trans ?_ (Below.mono (by assumption) ?_)) | go_size))⟩
end Go.Proofs.Ytmihcjbnieoodaa
