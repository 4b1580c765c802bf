/- MixTells, walked. -/
import Derived.Test.YtmihcjbnieoodaaMxG
namespace Go.Proofs.Ytmihcjbnieoodaa
open Go Go.RowKit

set_option maxRecDepth 100000 in
set_option maxHeartbeats 4000000 in
theorem mixTells_no (s : BitVec 64) (m : Int) (hm : m < 0 ∨ 256 < m) (n : Nat) (hn : n < 65536) (w : World) :
    Calls Try.prog 3 #[.int .u64 s.toNat, .int .i64 m, .int .u16 n] w fun e w' => e = .returned (.bool true) ∧ Below w.heap.size w w' := by
  have HM := Lib.hid hm
  obtain ⟨d, hd⟩ : ∃ x, Wd.of (BitVec.ofNat 64 n) = x := ⟨_, rfl⟩
  have n6 : (((BitVec.ofNat 64 n).toNat : Nat) : Int) = (n : Int) := by rw [BitVec.toNat_ofNat, Nat.mod_eq_of_lt (by omega)]
  obtain ⟨a, ha⟩ : ∃ x, Mx.mix s = x := ⟨_, rfl⟩
  obtain ⟨b, hb⟩ : ∃ x, Mx.word s = x := ⟨_, rfl⟩
  obtain ⟨c, hc⟩ : ∃ x, Mx.step s = x := ⟨_, rfl⟩
  have D1 := Lib.hid (show ∀ w, Calls Try.prog 20 #[.int .u64 s.toNat] w fun e w' => e = .returned (.int .u64 a.toNat) ∧ Below w.heap.size w w' from by intro w; rw [← ha]; exact mmix_c s w)
  have D2 := Lib.hid (show ∀ w, Calls Try.prog 21 #[.int .u64 s.toNat] w fun e w' => e = .returned (.int .u64 a.toNat) ∧ w = w' from by intro w; rw [← ha]; exact rmix6_c s w)
  have D3 := Lib.hid (show ∀ w, Calls Try.prog 22 #[.int .u64 s.toNat] w fun e w' => e = .returned (.int .u64 b.toNat) ∧ Below w.heap.size w w' from by intro w; rw [← hb]; exact mword_c s w)
  have D4 := Lib.hid (show ∀ w, Calls Try.prog 17 #[.int .u64 s.toNat] w fun e w' => e = .returned (.int .u64 b.toNat) ∧ w = w' from by intro w; rw [← hb]; exact rword6_c s w)
  have D5 := Lib.hid (show ∀ w, Calls Try.prog 23 #[.int .u64 s.toNat] w fun e w' => e = .returned (.int .u64 c.toNat) ∧ w = w' from by intro w; rw [← hc]; exact mstep_c s w)
  have D6 := Lib.hid (show ∀ w, Calls Try.prog 18 #[.int .u64 s.toNat] w fun e w' => e = .returned (.int .u64 c.toNat) ∧ w = w' from by intro w; rw [← hc]; exact rstep6_c s w)
  have N6 := Lib.hid n6
  have HD := Lib.hid hd
  clear ha hb hc n6 hd
  go_enter Try.func3, Try.ntmps3
  go_wp2_with fail
  refine (awake06_c _).mono ?_
  rintro e w1 ⟨rfl, hb1⟩
  have hz1 := hb1.size
  go_wp2_with fail
  refine (mwords_no m HM.out s _).mono ?_
  rintro e w2 ⟨rfl, hb2⟩
  have hz2 := hb2.size
  clear HM
  rcases hm with hm | hm
  · skip
    go_wp2_with fail
    refine (D1.out _).mono ?_
    rintro e wt1 ⟨rfl, hbt1⟩
    have hzt1 := hbt1.size; (try simp at hzt1)
    go_wp2_with fail
    refine (D2.out _).mono ?_
    rintro e w' ⟨rfl, rfl⟩
    go_wp2_with fail
    refine (D3.out _).mono ?_
    rintro e wt3 ⟨rfl, hbt3⟩
    have hzt3 := hbt3.size; (try simp at hzt3)
    go_wp2_with fail
    refine (D4.out _).mono ?_
    rintro e w' ⟨rfl, rfl⟩
    go_wp2_with fail
    refine (D5.out _).mono ?_
    rintro e w' ⟨rfl, rfl⟩
    go_wp2_with fail
    refine (D6.out _).mono ?_
    rintro e w' ⟨rfl, rfl⟩
    by_cases hn3 : n ≤ 300
    · have n3 : ¬ (300 : Int) < (n : Int) := by omega
      have n4 : IntKind.u64.wrap (n : Int) = (n : Int) := by rw [IntKind.wrap_u64]; omega
      have n5 : IntKind.i64.wrap (n : Int) = (n : Int) := by rw [IntKind.wrap_i64]; omega
      have D7 := Lib.hid (show ∀ w, Calls Try.prog 25 #[.int .u64 n] w fun e w' => e = .returned (.agg #[.int .u64 (Wd.hi d).toNat, .int .u64 (Wd.lo d).toNat]) ∧ Below w.heap.size w w' from by intro w; refine Calls.val (wofV_c (BitVec.ofNat 64 n) w) (by rw [N6.out]) (by rw [HD.out]))
      have D8 := Lib.hid (show ∀ w, Calls Try.prog 24 #[.int .u64 s.toNat, .agg #[.int .u64 (Wd.hi d).toNat, .int .u64 (Wd.lo d).toNat]] w fun e w' => e = .returned (.int .u64 (Mx.it n s).toNat) ∧ Below w.heap.size w w' from by intro w; rw [← HD.out, Mx.it_jump]; exact mjump_of s (BitVec.ofNat 64 n) w)
      go_wp2_with fail
      refine (D7.out _).mono ?_
      rintro e wt7 ⟨rfl, hbt7⟩
      have hzt7 := hbt7.size
      go_wp2_with fail
      refine (D8.out _).mono ?_
      rintro e wt8 ⟨rfl, hbt8⟩
      go_wp2_with fail
      refine (rjump6_c s n hn3 _).mono ?_
      rintro e w' ⟨rfl, rfl⟩
      go_wp2
      go_ret
      exact ⟨rfl, by (repeat' (first | (with_reducible exact Below.refl _ _) | (with_reducible assumption) | (with_reducible refine Below.alloc ?_ ?_ _) | (with_reducible refine Below.drew ?_) | (with_reducible refine below_drewN ?_ _) | (with_reducible refine Below.setCell ?_ ?_ _) | (with_reducible refine Below.trans ?_ (Below.mono (by assumption) ?_)) | go_size))⟩
    · have n3 : (300 : Int) < (n : Int) := by omega
      go_wp2
      go_ret
      exact ⟨rfl, by (repeat' (first | (with_reducible exact Below.refl _ _) | (with_reducible assumption) | (with_reducible refine Below.alloc ?_ ?_ _) | (with_reducible refine Below.drew ?_) | (with_reducible refine below_drewN ?_ _) | (with_reducible refine Below.setCell ?_ ?_ _) | (with_reducible refine Below.trans ?_ (Below.mono (by assumption) ?_)) | go_size))⟩
  · have h0 : ¬ m < 0 := by omega
    go_wp2_with fail
    refine (D1.out _).mono ?_
    rintro e wt1 ⟨rfl, hbt1⟩
    have hzt1 := hbt1.size; (try simp at hzt1)
    go_wp2_with fail
    refine (D2.out _).mono ?_
    rintro e w' ⟨rfl, rfl⟩
    go_wp2_with fail
    refine (D3.out _).mono ?_
    rintro e wt3 ⟨rfl, hbt3⟩
    have hzt3 := hbt3.size; (try simp at hzt3)
    go_wp2_with fail
    refine (D4.out _).mono ?_
    rintro e w' ⟨rfl, rfl⟩
    go_wp2_with fail
    refine (D5.out _).mono ?_
    rintro e w' ⟨rfl, rfl⟩
    go_wp2_with fail
    refine (D6.out _).mono ?_
    rintro e w' ⟨rfl, rfl⟩
    by_cases hn3 : n ≤ 300
    · have n3 : ¬ (300 : Int) < (n : Int) := by omega
      have n4 : IntKind.u64.wrap (n : Int) = (n : Int) := by rw [IntKind.wrap_u64]; omega
      have n5 : IntKind.i64.wrap (n : Int) = (n : Int) := by rw [IntKind.wrap_i64]; omega
      have D7 := Lib.hid (show ∀ w, Calls Try.prog 25 #[.int .u64 n] w fun e w' => e = .returned (.agg #[.int .u64 (Wd.hi d).toNat, .int .u64 (Wd.lo d).toNat]) ∧ Below w.heap.size w w' from by intro w; refine Calls.val (wofV_c (BitVec.ofNat 64 n) w) (by rw [N6.out]) (by rw [HD.out]))
      have D8 := Lib.hid (show ∀ w, Calls Try.prog 24 #[.int .u64 s.toNat, .agg #[.int .u64 (Wd.hi d).toNat, .int .u64 (Wd.lo d).toNat]] w fun e w' => e = .returned (.int .u64 (Mx.it n s).toNat) ∧ Below w.heap.size w w' from by intro w; rw [← HD.out, Mx.it_jump]; exact mjump_of s (BitVec.ofNat 64 n) w)
      go_wp2_with fail
      refine (D7.out _).mono ?_
      rintro e wt7 ⟨rfl, hbt7⟩
      have hzt7 := hbt7.size
      go_wp2_with fail
      refine (D8.out _).mono ?_
      rintro e wt8 ⟨rfl, hbt8⟩
      go_wp2_with fail
      refine (rjump6_c s n hn3 _).mono ?_
      rintro e w' ⟨rfl, rfl⟩
      go_wp2
      go_ret
      exact ⟨rfl, by (repeat' (first | (with_reducible exact Below.refl _ _) | (with_reducible assumption) | (with_reducible refine Below.alloc ?_ ?_ _) | (with_reducible refine Below.drew ?_) | (with_reducible refine below_drewN ?_ _) | (with_reducible refine Below.setCell ?_ ?_ _) | (with_reducible refine Below.trans ?_ (Below.mono (by assumption) ?_)) | go_size))⟩
    · have n3 : (300 : Int) < (n : Int) := by omega
      go_wp2
      go_ret
      exact ⟨rfl, by (repeat' (first | (with_reducible exact Below.refl _ _) | (with_reducible assumption) | (with_reducible refine Below.alloc ?_ ?_ _) | (with_reducible refine Below.drew ?_) | (with_reducible refine below_drewN ?_ _) | (with_reducible refine Below.setCell ?_ ?_ _) | (with_reducible refine Below.trans ?_ (Below.mono (by assumption) ?_)) | go_size))⟩

set_option maxRecDepth 100000 in
set_option maxHeartbeats 4000000 in
theorem mixTells_ok (s : BitVec 64) (m : Nat) (hm : m ≤ 256) (n : Nat) (hn : n < 65536) (w : World) :
    Calls Try.prog 3 #[.int .u64 s.toNat, .int .i64 m, .int .u16 n] w fun e w' => e = .returned (.bool true) ∧ Below w.heap.size w w' := by
  obtain ⟨i0, hi, hi0, hi1, hi2⟩ := info_parts Try.infoU64
  have h0 : ¬ (m : Int) < 0 := by omega
  have h1 : ¬ (256 : Int) < m := by omega
  obtain ⟨d, hd⟩ : ∃ x, Wd.of (BitVec.ofNat 64 n) = x := ⟨_, rfl⟩
  have n6 : (((BitVec.ofNat 64 n).toNat : Nat) : Int) = (n : Int) := by rw [BitVec.toNat_ofNat, Nat.mod_eq_of_lt (by omega)]
  obtain ⟨a, ha⟩ : ∃ x, Mx.mix s = x := ⟨_, rfl⟩
  obtain ⟨b, hb⟩ : ∃ x, Mx.word s = x := ⟨_, rfl⟩
  obtain ⟨c, hc⟩ : ∃ x, Mx.step s = x := ⟨_, rfl⟩
  have D1 := Lib.hid (show ∀ w, Calls Try.prog 20 #[.int .u64 s.toNat] w fun e w' => e = .returned (.int .u64 a.toNat) ∧ Below w.heap.size w w' from by intro w; rw [← ha]; exact mmix_c s w)
  have D2 := Lib.hid (show ∀ w, Calls Try.prog 21 #[.int .u64 s.toNat] w fun e w' => e = .returned (.int .u64 a.toNat) ∧ w = w' from by intro w; rw [← ha]; exact rmix6_c s w)
  have D3 := Lib.hid (show ∀ w, Calls Try.prog 22 #[.int .u64 s.toNat] w fun e w' => e = .returned (.int .u64 b.toNat) ∧ Below w.heap.size w w' from by intro w; rw [← hb]; exact mword_c s w)
  have D4 := Lib.hid (show ∀ w, Calls Try.prog 17 #[.int .u64 s.toNat] w fun e w' => e = .returned (.int .u64 b.toNat) ∧ w = w' from by intro w; rw [← hb]; exact rword6_c s w)
  have D5 := Lib.hid (show ∀ w, Calls Try.prog 23 #[.int .u64 s.toNat] w fun e w' => e = .returned (.int .u64 c.toNat) ∧ w = w' from by intro w; rw [← hc]; exact mstep_c s w)
  have D6 := Lib.hid (show ∀ w, Calls Try.prog 18 #[.int .u64 s.toNat] w fun e w' => e = .returned (.int .u64 c.toNat) ∧ w = w' from by intro w; rw [← hc]; exact rstep6_c s w)
  have N6 := Lib.hid n6
  have HD := Lib.hid hd
  clear ha hb hc n6 hd
  go_enter Try.func3, Try.ntmps3
  go_wp2_with fail
  refine (awake06_c _).mono ?_
  rintro e w1 ⟨rfl, hb1⟩
  have hz1 := hb1.size
  go_wp2_with fail
  refine (mwords_ok m hm s _).mono ?_
  rintro e w2 ⟨vl, rfl, hol, hb2⟩
  have hz2 := hb2.size
  have OL := Lib.hid hol
  clear hol
  have hu0 : (w2.alloc (.cells #[] 22)).ownsRow w2.heap.size 22 1 (.slice (some ⟨w2.heap.size, 0, none⟩) 0 0) 0 [] := World.ownsRow_made (base := w2.heap.size) (e := 22) (size := 1) (w := w2) #[] 0 (by omega) (by decide) rfl
  have HU0 := Lib.hid hu0
  have hb0 : Below w.heap.size w (w2.alloc (.cells #[] 22)) := by (repeat' (first | (with_reducible exact Below.refl _ _) | (with_reducible assumption) | (with_reducible refine Below.alloc ?_ ?_ _) | (with_reducible refine Below.drew ?_) | (with_reducible refine below_drewN ?_ _) | (with_reducible refine Below.setCell ?_ ?_ _) | (with_reducible refine Below.trans ?_ (Below.mono (by assumption) ?_)) | go_size))
  have HB0 := Lib.hid hb0
  have hl0 : (w2.alloc (.cells #[] 22)).ownsRow w1.heap.size 22 1 vl m (u64s (Mx.words m s)) := OL.out.alloc _
  have lt0 : ∀ k, vl.ownBlock = some k → k < w2.heap.size := fun k hk => (OL.out.lt _ hk).2
  have HL0 := Lib.hid hl0
  have LT0 := Lib.hid lt0
  clear hu0 hb0 hl0 lt0 OL hb1 hb2
  go_wp2
  go_loopw [10, 11, 41] (fun v x i wr => ∃ (j : Nat) (y : BitVec 64), j ≤ m ∧ i = .int .i64 j ∧ x = .int .u64 y.toNat ∧ Hid (Mx.it j s = y) ∧
      wr.ownsRow w2.heap.size 22 1 v j (u64s (Mx.words j s)) ∧ wr.ownsRow w1.heap.size 22 1 vl m (u64s (Mx.words m s)) ∧ w2.heap.size ≤ wr.heap.size ∧ Below w.heap.size w wr) (fun _ _ i _ => m - (intOf i).toNat)
  case atStart => exact ⟨0, s, by omega, rfl, rfl, Lib.hid rfl, HU0.out, HL0.out, by simp, HB0.out⟩
  case round =>
    obtain ⟨j, y, hj, rfl, rfl, hx, hown, hownl, hz, hb⟩ := hrel
    have HO := Lib.hid hown
    have HL := Lib.hid hownl
    clear hown hownl HU0 HL0 HB0
    by_cases hlt : j < m
    · go_wp2_with fail
      refine (rword6_c _ _).mono ?_
      rintro e w' ⟨rfl, rfl⟩
      go_wp2_with (at_builtin; refine wpList_append_own _ rfl _ _ 25 rfl w2.heap.size 22 i0 (.int .u64 0) 1 8 Try.underlying25 hi hi0 hi1 hi2 rfl (by decide) _ _ _ rfl (HO.out.alloc _) ⟨wr.heap.size, 0, none⟩ 1 1 [.int .u64 (Mx.word y).toNat] rfl rfl ?qa ?qb ?qc ?qd ?qe ?_)
      case qa => exact one_new _ _ _
      case qb => exact one_u64 _
      case qc => unfold maxLen; omega
      case qd => omega
      case qe => exact (by first | omega | (simp; done) | (simp; omega))
      · intro v' w4 hown' hgrow _
        have b4 : Below w.heap.size w w4 := Below.grown (hb.alloc (by omega) _) hgrow (by simp; omega) (fun k e => by have := (HO.out.lt _ e).1; omega)
        have hz4 : wr.heap.size + 1 ≤ w4.heap.size := by have := hgrow.size; simpa using this
        have O4 : w4.ownsRow w2.heap.size 22 1 v' (j + 1) (u64s (Mx.words (j + 1) s)) := by
          rw [Mx.words_succ, hx.out, u64s_snoc]; exact hown'
        have L4 : w4.ownsRow w1.heap.size 22 1 vl m (u64s (Mx.words m s)) := (HL.out.alloc _).kept hgrow (by
          cases hv : vl.ownBlock with
          | none => exact .inl rfl
          | some k => exact .inr (fun e => by have := LT0.out k hv; have := (HO.out.lt _ e.symm).1; omega))
        have HO4 := Lib.hid O4
        have HL4 := Lib.hid L4
        clear O4 L4 hown' hgrow HO HL
        go_wp2_with fail
        refine (rstep6_c _ _).mono ?_
        rintro e w5 ⟨rfl, rfl⟩
        go_wp2
        go_roundw
        case rel => exact ⟨j + 1, Mx.step y, by omega, by go_num, rfl, Lib.hid (by rw [Mx.it, hx.out]), HO4.out, HL4.out, by omega, b4⟩
        case measure => simp [intOf]; omega
    · obtain rfl : m = j := by omega
      rw [hx.out]
      go_wp2_with fail
      have ho1 := HO.out
      have hl1 := HL.out
      have SAME := Lib.hid (fun w5 (a : w5.ownsRow w1.heap.size 22 1 vl (Mx.words m s).length (u64s (Mx.words m s))) (b : w5.ownsRow w2.heap.size 22 1 u10 (Mx.words m s).length (u64s (Mx.words m s))) => words_same (Mx.words m s) (by rw [Mx.words_length]; omega) vl u10 _ _ w5 a b)
      clear ho1 hl1
      refine (SAME.out _ (by rw [Mx.words_length]; exact HL.out) (by rw [Mx.words_length]; exact HO.out)).mono ?_
      rintro e w6 ⟨rfl, hb6⟩
      have hz6 := hb6.size
      go_wp2_with fail
      refine (D1.out _).mono ?_
      rintro e wt1 ⟨rfl, hbt1⟩
      have hzt1 := hbt1.size; (try simp at hzt1)
      go_wp2_with fail
      refine (D2.out _).mono ?_
      rintro e w' ⟨rfl, rfl⟩
      go_wp2_with fail
      refine (D3.out _).mono ?_
      rintro e wt3 ⟨rfl, hbt3⟩
      have hzt3 := hbt3.size; (try simp at hzt3)
      go_wp2_with fail
      refine (D4.out _).mono ?_
      rintro e w' ⟨rfl, rfl⟩
      go_wp2_with fail
      refine (D5.out _).mono ?_
      rintro e w' ⟨rfl, rfl⟩
      go_wp2_with fail
      refine (D6.out _).mono ?_
      rintro e w' ⟨rfl, rfl⟩
      by_cases hn3 : n ≤ 300
      · have n3 : ¬ (300 : Int) < (n : Int) := by omega
        have n4 : IntKind.u64.wrap (n : Int) = (n : Int) := by rw [IntKind.wrap_u64]; omega
        have n5 : IntKind.i64.wrap (n : Int) = (n : Int) := by rw [IntKind.wrap_i64]; omega
        have D7 := Lib.hid (show ∀ w, Calls Try.prog 25 #[.int .u64 n] w fun e w' => e = .returned (.agg #[.int .u64 (Wd.hi d).toNat, .int .u64 (Wd.lo d).toNat]) ∧ Below w.heap.size w w' from by intro w; refine Calls.val (wofV_c (BitVec.ofNat 64 n) w) (by rw [N6.out]) (by rw [HD.out]))
        have D8 := Lib.hid (show ∀ w, Calls Try.prog 24 #[.int .u64 s.toNat, .agg #[.int .u64 (Wd.hi d).toNat, .int .u64 (Wd.lo d).toNat]] w fun e w' => e = .returned (.int .u64 (Mx.it n s).toNat) ∧ Below w.heap.size w w' from by intro w; rw [← HD.out, Mx.it_jump]; exact mjump_of s (BitVec.ofNat 64 n) w)
        go_wp2_with fail
        refine (D7.out _).mono ?_
        rintro e wt7 ⟨rfl, hbt7⟩
        have hzt7 := hbt7.size
        go_wp2_with fail
        refine (D8.out _).mono ?_
        rintro e wt8 ⟨rfl, hbt8⟩
        go_wp2_with fail
        refine (rjump6_c s n hn3 _).mono ?_
        rintro e w' ⟨rfl, rfl⟩
        go_wp2
        go_ret
        exact ⟨rfl, by (repeat' (first | (with_reducible exact Below.refl _ _) | (with_reducible assumption) | (with_reducible refine Below.alloc ?_ ?_ _) | (with_reducible refine Below.drew ?_) | (with_reducible refine below_drewN ?_ _) | (with_reducible refine Below.setCell ?_ ?_ _) | (with_reducible refine Below.trans ?_ (Below.mono (by assumption) ?_)) | go_size))⟩
      · have n3 : (300 : Int) < (n : Int) := by omega
        go_wp2
        go_ret
        exact ⟨rfl, by (repeat' (first | (with_reducible exact Below.refl _ _) | (with_reducible assumption) | (with_reducible refine Below.alloc ?_ ?_ _) | (with_reducible refine Below.drew ?_) | (with_reducible refine below_drewN ?_ _) | (with_reducible refine Below.setCell ?_ ?_ _) | (with_reducible refine Below.trans ?_ (Below.mono (by assumption) ?_)) | go_size))⟩
theorem mixTells_walk (s : BitVec 64) (m : Int) (n : Nat) (hn : n < 65536) (w : World) :
    Calls Try.prog 3 #[.int .u64 s.toNat, .int .i64 m, .int .u16 n] w fun e w' => e = .returned (.bool true) ∧ Below w.heap.size w w' := by
  by_cases h : m < 0 ∨ 256 < m
  · exact mixTells_no s m h n hn w
  · obtain ⟨k, rfl⟩ := Int.eq_ofNat_of_zero_le (show 0 ≤ m from by omega)
    exact mixTells_ok s k (by omega) n hn w
end Go.Proofs.Ytmihcjbnieoodaa
