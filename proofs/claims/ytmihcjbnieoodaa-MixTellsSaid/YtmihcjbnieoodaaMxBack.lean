/- MixBack and MixApart, walked. -/
import Derived.Test.YtmihcjbnieoodaaMxF
namespace Go.Proofs.Ytmihcjbnieoodaa
open Go Go.RowKit

set_option maxRecDepth 100000 in
set_option maxHeartbeats 1000000 in
theorem mixBack_walk (z : BitVec 64) (w : World) : Calls Try.prog 4 #[.int .u64 z.toNat] w fun e w' => e = .returned (.bool true) ∧ Below w.heap.size w w' := by
  go_enter Try.func4, Try.ntmps4
  go_wp2_with fail
  refine (awake06_c _).mono ?_
  rintro e w1 ⟨rfl, hb1⟩
  have hz1 := hb1.size
  go_wp2_with fail
  refine (mmix_c _ _).mono ?_
  rintro e w2 ⟨rfl, hb2⟩
  have hz2 := hb2.size
  go_wp2_with fail
  refine (Calls.val (munmix_c (Mx.mix z) _) rfl (by rw [Mx.unmix_mix])).mono ?_
  rintro e w3 ⟨rfl, hb3⟩
  have hz3 := hb3.size
  go_wp2_with fail
  refine (munmix_c _ _).mono ?_
  rintro e w4 ⟨rfl, hb4⟩
  have hz4 := hb4.size
  go_wp2_with fail
  refine (Calls.val (mmix_c (Mx.unmix z) _) rfl (by rw [Mx.mix_unmix])).mono ?_
  rintro e w5 ⟨rfl, hb5⟩
  have hz5 := hb5.size
  go_wp2_with fail
  refine (mstep_c _ _).mono ?_
  rintro e w' ⟨rfl, rfl⟩
  go_wp2_with fail
  refine (Calls.val (mback_c (Mx.step z) _) rfl (by rw [Mx.back_step])).mono ?_
  rintro e w' ⟨rfl, rfl⟩
  go_wp2_with fail
  refine (mback_c _ _).mono ?_
  rintro e w' ⟨rfl, rfl⟩
  go_wp2_with fail
  refine (Calls.val (mstep_c (Mx.back z) _) rfl (by rw [Mx.step_back])).mono ?_
  rintro e w' ⟨rfl, rfl⟩
  go_wp2_with fail
  refine (mstep_c _ _).mono ?_
  rintro e w' ⟨rfl, rfl⟩
  go_wp2_with fail
  refine (mmix_c _ _).mono ?_
  rintro e w6 ⟨rfl, hb6⟩
  have hz6 := hb6.size
  go_wp2_with fail
  refine (Calls.val (mword_c z _) rfl (v' := .int .u64 (Mx.mix (Mx.step z)).toNat) rfl).mono ?_
  rintro e w7 ⟨rfl, hb7⟩
  go_wp2
  go_ret
  exact ⟨rfl, by (repeat' (first | (with_reducible exact Below.refl _ _) | (with_reducible assumption) | (with_reducible refine Below.alloc ?_ ?_ _) | (with_reducible refine Below.drew ?_) | (with_reducible refine below_drewN ?_ _) | (with_reducible refine Below.setCell ?_ ?_ _) | (with_reducible refine Below.trans ?_ (Below.mono (by assumption) ?_)) | go_size))⟩

theorem beq64_dec (a b : BitVec 64) : ((a.toNat : Int) == (b.toNat : Int)) = decide (a = b) := by
  by_cases h : a = b
  · rw [h, decide_eq_true rfl]; exact beq_self_eq_true _
  · rw [decide_eq_false h]; exact beq_false_of_ne (fun e => h (BitVec.eq_of_toNat_eq (by omega)))
theorem beq64_iff {a b n m : BitVec 64} (h : a = b ↔ n = m) : ((a.toNat : Int) == (b.toNat : Int)) = ((n.toNat : Int) == (m.toNat : Int)) := by
  rw [beq64_dec, beq64_dec]; exact decide_eq_decide.2 h
theorem lo_ofV (n : BitVec 64) : Wd.lo (Wd.of n) = n := Wd.lo_mk _ _
theorem mjump_of (s n : BitVec 64) (w : World) :
    Calls Try.prog 24 #[.int .u64 s.toNat, .agg #[.int .u64 (Wd.hi (Wd.of n)).toNat, .int .u64 (Wd.lo (Wd.of n)).toNat]] w fun e w' => e = .returned (.int .u64 (Mx.jump s n).toNat) ∧ Below w.heap.size w w' :=
  Calls.val (mjump_c s (Wd.of n) w) rfl (congrArg (fun x : BitVec 64 => Value.int .u64 (Mx.jump s x).toNat) (lo_ofV n))
set_option maxRecDepth 100000 in
set_option maxHeartbeats 1000000 in
theorem mixApart_walk (s n m : BitVec 64) (w : World) : Calls Try.prog 5 #[.int .u64 s.toNat, .int .u64 n.toNat, .int .u64 m.toNat] w fun e w' => e = .returned (.bool true) ∧ Below w.heap.size w w' := by
  have A1 : (Mx.jump s n = Mx.jump s m) ↔ (n = m) := Mx.jump_inj s
  have A2 : (Mx.word (Mx.jump s n) = Mx.word (Mx.jump s m)) ↔ (n = m) := Mx.word_inj.trans A1
  have C1 := mjump_of s n
  have C2 := mjump_of s m
  have C3 := mword_c (Mx.jump s n)
  have C4 := mword_c (Mx.jump s m)
  obtain ⟨x, hx⟩ : ∃ x, Mx.word (Mx.jump s n) = x := ⟨_, rfl⟩
  obtain ⟨y, hy⟩ : ∃ x, Mx.word (Mx.jump s m) = x := ⟨_, rfl⟩
  rw [hx] at C3 A2
  rw [hy] at C4 A2
  clear hx hy
  obtain ⟨a, ha⟩ : ∃ x, Mx.jump s n = x := ⟨_, rfl⟩
  obtain ⟨b, hb⟩ : ∃ x, Mx.jump s m = x := ⟨_, rfl⟩
  rw [ha] at C1 C3 A1
  rw [hb] at C2 C4 A1
  have D1 := Lib.hid C1
  have D2 := Lib.hid C2
  have D3 := Lib.hid C3
  have D4 := Lib.hid C4
  have R1 := Lib.hid (beq64_iff A1)
  have R2 := Lib.hid (beq64_iff A2)
  clear A1 A2 ha hb C1 C2 C3 C4
  go_enter Try.func5, Try.ntmps5
  go_wp2_with fail
  refine (awake06_c _).mono ?_
  rintro e w1 ⟨rfl, hb1⟩
  have hz1 := hb1.size
  go_wp2_with fail
  refine (wofV_c _ _).mono ?_
  rintro e w2 ⟨rfl, hb2⟩
  have hz2 := hb2.size
  go_wp2_with fail
  refine (D1.out _).mono ?_
  rintro e w3 ⟨rfl, hb3⟩
  have hz3 := hb3.size
  go_wp2_with fail
  refine (wofV_c _ _).mono ?_
  rintro e w4 ⟨rfl, hb4⟩
  have hz4 := hb4.size
  go_wp2_with fail
  refine (D2.out _).mono ?_
  rintro e w5 ⟨rfl, hb5⟩
  have hz5 := hb5.size
  go_wp2_with fail
  · refine (D3.out _).mono ?_
    rintro e w6 ⟨rfl, hb6⟩
    have hz6 := hb6.size
    go_wp2_with fail
    refine (D4.out _).mono ?_
    rintro e w7 ⟨rfl, hb7⟩
    go_wp2
    go_ret
    exact ⟨congrArg (fun b => Ending.returned (.bool b)) (show (((x.toNat : Int) == (y.toNat : Int)) == ((n.toNat : Int) == (m.toNat : Int))) = true from by rw [R2.out]; exact beq_self_eq_true _), by (repeat' (first | (with_reducible exact Below.refl _ _) | (with_reducible assumption) | (with_reducible refine Below.alloc ?_ ?_ _) | (with_reducible refine Below.drew ?_) | (with_reducible refine below_drewN ?_ _) | (with_reducible refine Below.setCell ?_ ?_ _) | (with_reducible refine Below.trans ?_ (Below.mono (by assumption) ?_)) | go_size))⟩
  all_goals (rename_i hh; exact absurd R1.out hh)
end Go.Proofs.Ytmihcjbnieoodaa
