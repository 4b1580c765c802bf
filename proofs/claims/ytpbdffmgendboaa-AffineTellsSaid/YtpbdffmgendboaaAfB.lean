/- affine.Odd walked. -/
import Derived.Test.YtpbdffmgendboaaAf
namespace Go.Proofs.Ytpbdffmgendboaa
open Go Go.RowKit
theorem bit_odd (n : BitVec 128) : Wd.bit n 0 = (Af.odd n).toNat := rfl
set_option maxRecDepth 100000 in
theorem aodd_no (n : BitVec 128) (hn : Af.odd n = false) (w0 : World) : Calls Try.prog 16 #[.agg #[.int .u64 ((Wd.hi n).toNat), .int .u64 ((Wd.lo n).toNat)]] w0 fun e w' => e = .returned (.tuple #[.agg #[.int .u64 ((Wd.hi 0#128).toNat), .int .u64 ((Wd.lo 0#128).toNat)], .int .i64 1]) ∧ Below w0.heap.size w0 w' := by
  refine Sx.enter (args := [.agg #[.int .u64 ((Wd.hi n).toNat), .int .u64 ((Wd.lo n).toNat)]]) Try.func16 rfl Try.ntmps16 (Nat.le_of_ble_eq_true rfl) (fun A F => ?_)
  have H := Sx.Own.start w0
  refine Sx.seq (fun K1 hK1 => ?_)
  refine Sx.plain ?_
  refine Sx.sb F (Sx.d_box F H rfl rfl [.int .u64 ((Wd.hi n).toNat), .int .u64 ((Wd.lo n).toNat)] rfl) (Sx.wanted_none rfl _) rfl (by decide) (fun g1 A w F H => ?_)
  refine Sx.sb F (Sx.d_alloc H rfl [.int .u64 ((Wd.hi 0#128).toNat), .int .u64 ((Wd.lo 0#128).toNat)] zero_24) (Sx.wanted_none rfl _) rfl (by decide) (fun g2 A w F H => ?_)
  refine Sx.sv F (Sx.d_move F (Or.inr rfl) rfl) (Sx.wanted_none rfl _) rfl (by decide) (fun A F => ?_)
  refine Sx.nil ?_
  refine hK1 _ _ ?_
  refine Sx.seq (fun K2 hK2 => ?_)
  refine Sx.seq (fun K3 hK3 => ?_)
  refine Sx.plain ?_
  refine Sx.sv F (Sx.d_load (i := 1) (xs := [.int .u64 ((Wd.hi n).toNat), .int .u64 ((Wd.lo n).toNat)]) rw_24 F H rfl rfl rfl rfl rfl) (Sx.wanted_none rfl _) rfl (by decide) (fun A F => ?_)
  refine Sx.sw F (Sx.d_call (vs := [.agg #[.int .u64 ((Wd.hi n).toNat), .int .u64 ((Wd.lo n).toNat)], .int .i64 0]) (v := .int .i64 (Wd.bit n 0)) if_30 F H rfl rfl (wbit_c n 0 (by omega) _)) (Sx.wanted_none rfl _) rfl (by decide) (fun A w F H => ?_)
  refine Sx.sv F (Sx.d_bin (v := .bool true) F rfl rfl rfl (Sx.i_eq (by rw [bit_odd, hn]; rfl))) (Sx.wanted_none rfl _) rfl (by decide) (fun A F => ?_)
  refine Sx.nil ?_
  refine hK3 _ _ ?_
  refine Sx.condT F rfl ?_
  refine Sx.seq (fun K4 hK4 => ?_)
  refine Sx.plain ?_
  refine Sx.sv F (Sx.d_build (qs := #[]) (v := .agg #[.int .u64 ((Wd.hi 0#128).toNat), .int .u64 ((Wd.lo 0#128).toNat)]) F rfl rfl (by kernel_rfl)) (Sx.wanted_none rfl _) rfl (by decide) (fun A F => ?_)
  refine Sx.ss F (Sx.d_store (i := 0) (xs := [.int .u64 ((Wd.hi 0#128).toNat), .int .u64 ((Wd.lo 0#128).toNat)]) (us := [.int .u64 ((Wd.hi 0#128).toNat), .int .u64 ((Wd.lo 0#128).toNat)]) sz_24 F H rfl rfl rfl rfl rfl rfl rfl (Nat.le_of_ble_eq_true rfl) rfl) (Sx.wanted_none rfl _) rfl (fun A w F (H : Sx.Own w0 _ [(true, g2, [.int .u64 ((Wd.hi 0#128).toNat), .int .u64 ((Wd.lo 0#128).toNat)]), (true, g1, [.int .u64 ((Wd.hi n).toNat), .int .u64 ((Wd.lo n).toNat)])] []) => ?_)
  refine Sx.sv F (Sx.d_move F (Or.inr rfl) rfl) (Sx.wanted_none rfl _) rfl (by decide) (fun A F => ?_)
  refine Sx.nil ?_
  refine hK4 _ _ ?_
  refine wp_ret ?_
  try dsimp only [Exit.then, Exit.inBlock, Exit.jump]
  refine Sx.ret2 F Try.results16 (Sx.res_row (i := 0) (xs := [.int .u64 ((Wd.hi 0#128).toNat), .int .u64 ((Wd.lo 0#128).toNat)]) rw_24 F H rfl rfl rfl rfl) (Sx.res_tmp (v := .int .i64 1) F rfl) ⟨?_, H.below⟩
  rfl
set_option maxRecDepth 100000 in
theorem aodd_ok (n : BitVec 128) (hn : Af.odd n = true) (w0 : World) : Calls Try.prog 16 #[.agg #[.int .u64 ((Wd.hi n).toNat), .int .u64 ((Wd.lo n).toNat)]] w0 fun e w' => e = .returned (.tuple #[.agg #[.int .u64 ((Wd.hi (Af.inv n)).toNat), .int .u64 ((Wd.lo (Af.inv n)).toNat)], .int .i64 0]) ∧ Below w0.heap.size w0 w' := by
  refine Sx.enter (args := [.agg #[.int .u64 ((Wd.hi n).toNat), .int .u64 ((Wd.lo n).toNat)]]) Try.func16 rfl Try.ntmps16 (Nat.le_of_ble_eq_true rfl) (fun A F => ?_)
  have H := Sx.Own.start w0
  refine Sx.seq (fun K1 hK1 => ?_)
  refine Sx.plain ?_
  refine Sx.sb F (Sx.d_box F H rfl rfl [.int .u64 ((Wd.hi n).toNat), .int .u64 ((Wd.lo n).toNat)] rfl) (Sx.wanted_none rfl _) rfl (by decide) (fun g1 A w F H => ?_)
  refine Sx.sb F (Sx.d_alloc H rfl [.int .u64 ((Wd.hi 0#128).toNat), .int .u64 ((Wd.lo 0#128).toNat)] zero_24) (Sx.wanted_none rfl _) rfl (by decide) (fun g2 A w F H => ?_)
  refine Sx.sv F (Sx.d_move F (Or.inr rfl) rfl) (Sx.wanted_none rfl _) rfl (by decide) (fun A F => ?_)
  refine Sx.nil ?_
  refine hK1 _ _ ?_
  refine Sx.seq (fun K2 hK2 => ?_)
  refine Sx.seq (fun K3 hK3 => ?_)
  refine Sx.plain ?_
  refine Sx.sv F (Sx.d_load (i := 1) (xs := [.int .u64 ((Wd.hi n).toNat), .int .u64 ((Wd.lo n).toNat)]) rw_24 F H rfl rfl rfl rfl rfl) (Sx.wanted_none rfl _) rfl (by decide) (fun A F => ?_)
  refine Sx.sw F (Sx.d_call (vs := [.agg #[.int .u64 ((Wd.hi n).toNat), .int .u64 ((Wd.lo n).toNat)], .int .i64 0]) (v := .int .i64 (Wd.bit n 0)) if_30 F H rfl rfl (wbit_c n 0 (by omega) _)) (Sx.wanted_none rfl _) rfl (by decide) (fun A w F H => ?_)
  refine Sx.sv F (Sx.d_bin (v := .bool false) F rfl rfl rfl (Sx.i_eq (by rw [bit_odd, hn]; rfl))) (Sx.wanted_none rfl _) rfl (by decide) (fun A F => ?_)
  refine Sx.nil ?_
  refine hK3 _ _ ?_
  refine Sx.condF F rfl ?_
  refine wp_skip ?_
  refine hK2 _ _ ?_
  refine Sx.seq (fun K4 hK4 => ?_)
  refine Sx.plain ?_
  refine Sx.sv F (Sx.d_load (i := 1) (xs := [.int .u64 ((Wd.hi n).toNat), .int .u64 ((Wd.lo n).toNat)]) rw_24 F H rfl rfl rfl rfl rfl) (Sx.wanted_none rfl _) rfl (by decide) (fun A F => ?_)
  refine Sx.sb F (Sx.d_alloc H rfl [.int .u64 ((Wd.hi 0#128).toNat), .int .u64 ((Wd.lo 0#128).toNat)] zero_24) (Sx.wanted_none rfl _) rfl (by decide) (fun g3 A w F H => ?_)
  refine Sx.ss F (Sx.d_store (i := 0) (xs := [.int .u64 ((Wd.hi n).toNat), .int .u64 ((Wd.lo n).toNat)]) (us := [.int .u64 ((Wd.hi n).toNat), .int .u64 ((Wd.lo n).toNat)]) sz_24 F H rfl rfl rfl rfl rfl rfl rfl (Nat.le_of_ble_eq_true rfl) rfl) (Sx.wanted_none rfl _) rfl (fun A w F (H : Sx.Own w0 _ [(true, g3, [.int .u64 ((Wd.hi n).toNat), .int .u64 ((Wd.lo n).toNat)]), (true, g2, [.int .u64 ((Wd.hi 0#128).toNat), .int .u64 ((Wd.lo 0#128).toNat)]), (true, g1, [.int .u64 ((Wd.hi n).toNat), .int .u64 ((Wd.lo n).toNat)])] []) => ?_)
  refine Sx.nil ?_
  refine hK4 _ _ ?_
  refine Sx.seq (fun K5 hK5 => ?_)
  refine Sx.seq (fun K6 hK6 => ?_)
  refine Sx.plain ?_
  refine Sx.sv F (Sx.d_move F (Or.inl rfl) rfl) (Sx.wanted_none rfl _) rfl (by decide) (fun A F => ?_)
  refine Sx.nil ?_
  refine hK6 _ _ ?_
  refine wp_block ?_
  refine Sx.loop (fun q A w => ∃ k : Nat, q = 7 - k ∧ k ≤ 7 ∧ Sx.Fr 27 A [(1, .pointer (some ⟨g1, 0, none⟩)), (2, .pointer (some ⟨g2, 0, none⟩)), (3, .int .i64 0), (4, .pointer (some ⟨g3, 0, none⟩)), (12, .int .i64 k)] ∧ Sx.Own w0 w [(true, g3, [.int .u64 ((Wd.hi (Af.newton n k)).toNat), .int .u64 ((Wd.lo (Af.newton n k)).toNat)]), (true, g2, [.int .u64 ((Wd.hi 0#128).toNat), .int .u64 ((Wd.lo 0#128).toNat)]), (true, g1, [.int .u64 ((Wd.hi n).toNat), .int .u64 ((Wd.lo n).toNat)])] []) 7 ⟨0, rfl, Nat.zero_le _, F.to ⟨rfl, rfl, rfl, rfl, rfl, trivial⟩, H⟩ ?_
  rintro q A w ⟨k, rfl, hk, F, H⟩
  by_cases hlt : k < 7
  · skip
    refine Sx.seq (fun K7 hK7 => ?_)
    refine Sx.plain ?_
    refine Sx.sv F (Sx.d_bin (v := .bool true) F rfl rfl rfl (Sx.i_lt (decide_eq_true (by omega)))) (Sx.wanted_none rfl _) rfl (by decide) (fun A F => ?_)
    refine Sx.nil ?_
    refine hK7 _ _ ?_
    refine Sx.seq (fun K8 hK8 => ?_)
    refine Sx.condT F rfl ?_
    refine wp_skip ?_
    refine hK8 _ _ ?_
    refine Sx.seq (fun K9 hK9 => ?_)
    refine wp_block ?_
    refine Sx.seq (fun K10 hK10 => ?_)
    have F := Sx.Fr.to F (kv' := [(1, .pointer (some ⟨g1, 0, none⟩)), (2, .pointer (some ⟨g2, 0, none⟩)), (3, .int .i64 0), (4, .pointer (some ⟨g3, 0, none⟩)), (12, .int .i64 k), (13, .bool true)]) ⟨rfl, rfl, rfl, rfl, rfl, rfl, trivial⟩
    refine Sx.drawn F (by kernel_rfl) (by kernel_rfl) (by kernel_rfl) [some (.agg #[.int .u64 ((Wd.hi 2#128).toNat), .int .u64 ((Wd.lo 2#128).toNat)]), some (.agg #[.int .u64 ((Wd.hi n).toNat), .int .u64 ((Wd.lo n).toNat)]), some (.agg #[.int .u64 ((Wd.hi (Af.newton n k)).toNat), .int .u64 ((Wd.lo (Af.newton n k)).toNat)]), some (.agg #[.int .u64 ((Wd.hi (n * (Af.newton n k))).toNat), .int .u64 ((Wd.lo (n * (Af.newton n k))).toNat)]), some (.tuple #[.agg #[.int .u64 ((Wd.hi (2#128 - (n * (Af.newton n k)))).toNat), .int .u64 ((Wd.lo (2#128 - (n * (Af.newton n k)))).toNat)], .bool (Wd.less 2#128 (n * (Af.newton n k)))]), some (.tuple #[.agg #[.int .u64 ((Wd.hi (2#128 - (n * (Af.newton n k)))).toNat), .int .u64 ((Wd.lo (2#128 - (n * (Af.newton n k)))).toNat)], .bool (Wd.less 2#128 (n * (Af.newton n k)))]), some (.agg #[.int .u64 ((Wd.hi (2#128 - (n * (Af.newton n k)))).toNat), .int .u64 ((Wd.lo (2#128 - (n * (Af.newton n k)))).toNat)]), some (.bool (Wd.less 2#128 (n * (Af.newton n k)))), none, none, some (.bool (Wd.less 2#128 (n * (Af.newton n k))))] (fun L A w => ∃ g4 : Nat, (L 8 = true → A.eval (.tmp 5) = .pointer (some ⟨g4, 0, none⟩)) ∧ Sx.Own w0 w [(true, g3, [.int .u64 ((Wd.hi (Af.newton n k)).toNat), .int .u64 ((Wd.lo (Af.newton n k)).toNat)]), (true, g2, [.int .u64 ((Wd.hi 0#128).toNat), .int .u64 ((Wd.lo 0#128).toNat)]), (true, g1, [.int .u64 ((Wd.hi n).toNat), .int .u64 ((Wd.lo n).toNat)]), (L 8, g4, (cond (L 9) [.int .u64 ((Wd.hi (2#128 - (n * (Af.newton n k)))).toNat), .int .u64 ((Wd.lo (2#128 - (n * (Af.newton n k)))).toNat)] [.int .u64 ((Wd.hi 0#128).toNat), .int .u64 ((Wd.lo 0#128).toNat)]))] []) ⟨0, (fun h => by cases h), H.drew.pad [(false, 0, [.int .u64 ((Wd.hi 0#128).toNat), .int .u64 ((Wd.lo 0#128).toNat)])] rfl [] rfl⟩ ?_ ?_
    · refine ⟨?_, ?_, ?_, ?_, ?_, ?_, ?_, ?_, ?_, ?_, ?_, trivial⟩
      · show Sx.StepAt _ _ _ _ _ _ _ 0
        intro L A w up hun hd F ⟨g4, p8, H⟩
        have f9 : L 9 = false := up 9 0 rfl hun
        rw [f9] at H
        have F := Sx.Fr.to F (kv' := []) trivial
        refine Sx.step_on rfl (Sx.d_call (vs := [.int .u64 2]) (v := .agg #[.int .u64 ((Wd.hi 2#128).toNat), .int .u64 ((Wd.lo 2#128).toNat)]) if_29 F H rfl rfl (Calls.val (wofV_c 2#64 _) (by kernel_rfl) (by kernel_rfl))) ?_
        rintro xv w' ⟨hx, H⟩
        exact ⟨(fun cv hc => hx.trans (Option.some.inj (Option.some.inj hc))), ⟨g4, (fun h => (Sx.put_ne rfl _).trans (p8 h)), (by show Sx.Own _ _ _ _; rw [show Inv.add L 0 9 = false from f9]; exact H)⟩⟩
      · show Sx.StepAt _ _ _ _ _ _ _ 1
        intro L A w up hun hd F ⟨g4, p8, H⟩
        have f9 : L 9 = false := up 9 1 rfl hun
        rw [f9] at H
        have F := Sx.Fr.to F (kv' := [(1, .pointer (some ⟨g1, 0, none⟩))]) ⟨rfl, trivial⟩
        refine Sx.step_on rfl (Sx.d_load (i := 2) (xs := [.int .u64 ((Wd.hi n).toNat), .int .u64 ((Wd.lo n).toNat)]) rw_24 F H rfl rfl rfl rfl rfl) ?_
        rintro xv w' ⟨hx, rfl⟩
        exact ⟨(fun cv hc => hx.trans (Option.some.inj (Option.some.inj hc))), ⟨g4, (fun h => (Sx.put_ne rfl _).trans (p8 h)), (by show Sx.Own _ _ _ _; rw [show Inv.add L 1 9 = false from f9]; exact H)⟩⟩
      · show Sx.StepAt _ _ _ _ _ _ _ 2
        intro L A w up hun hd F ⟨g4, p8, H⟩
        have f9 : L 9 = false := up 9 2 rfl hun
        rw [f9] at H
        have F := Sx.Fr.to F (kv' := [(4, .pointer (some ⟨g3, 0, none⟩))]) ⟨rfl, trivial⟩
        refine Sx.step_on rfl (Sx.d_load (i := 0) (xs := [.int .u64 ((Wd.hi (Af.newton n k)).toNat), .int .u64 ((Wd.lo (Af.newton n k)).toNat)]) rw_24 F H rfl rfl rfl rfl rfl) ?_
        rintro xv w' ⟨hx, rfl⟩
        exact ⟨(fun cv hc => hx.trans (Option.some.inj (Option.some.inj hc))), ⟨g4, (fun h => (Sx.put_ne rfl _).trans (p8 h)), (by show Sx.Own _ _ _ _; rw [show Inv.add L 2 9 = false from f9]; exact H)⟩⟩
      · show Sx.StepAt _ _ _ _ _ _ _ 3
        intro L A w up hun hd F ⟨g4, p8, H⟩
        have f9 : L 9 = false := up 9 3 rfl hun
        rw [f9] at H
        have F := Sx.Fr.to F (kv' := [(16, .agg #[.int .u64 ((Wd.hi n).toNat), .int .u64 ((Wd.lo n).toNat)]), (17, .agg #[.int .u64 ((Wd.hi (Af.newton n k)).toNat), .int .u64 ((Wd.lo (Af.newton n k)).toNat)])]) ⟨rfl, rfl, trivial⟩
        refine Sx.step_on rfl (Sx.d_call (vs := [.agg #[.int .u64 ((Wd.hi n).toNat), .int .u64 ((Wd.lo n).toNat)], .agg #[.int .u64 ((Wd.hi (Af.newton n k)).toNat), .int .u64 ((Wd.lo (Af.newton n k)).toNat)]]) (v := .agg #[.int .u64 ((Wd.hi (n * (Af.newton n k))).toNat), .int .u64 ((Wd.lo (n * (Af.newton n k))).toNat)]) if_31 F H rfl rfl (wmul_c n (Af.newton n k) _)) ?_
        rintro xv w' ⟨hx, H⟩
        exact ⟨(fun cv hc => hx.trans (Option.some.inj (Option.some.inj hc))), ⟨g4, (fun h => (Sx.put_ne rfl _).trans (p8 h)), (by show Sx.Own _ _ _ _; rw [show Inv.add L 3 9 = false from f9]; exact H)⟩⟩
      · show Sx.StepAt _ _ _ _ _ _ _ 4
        intro L A w up hun hd F ⟨g4, p8, H⟩
        have f9 : L 9 = false := up 9 4 rfl hun
        rw [f9] at H
        have F := Sx.Fr.to F (kv' := [(15, .agg #[.int .u64 ((Wd.hi 2#128).toNat), .int .u64 ((Wd.lo 2#128).toNat)]), (18, .agg #[.int .u64 ((Wd.hi (n * (Af.newton n k))).toNat), .int .u64 ((Wd.lo (n * (Af.newton n k))).toNat)])]) ⟨rfl, rfl, trivial⟩
        refine Sx.step_on rfl (Sx.d_call (vs := [.agg #[.int .u64 ((Wd.hi 2#128).toNat), .int .u64 ((Wd.lo 2#128).toNat)], .agg #[.int .u64 ((Wd.hi (n * (Af.newton n k))).toNat), .int .u64 ((Wd.lo (n * (Af.newton n k))).toNat)]]) (v := .tuple #[.agg #[.int .u64 ((Wd.hi (2#128 - (n * (Af.newton n k)))).toNat), .int .u64 ((Wd.lo (2#128 - (n * (Af.newton n k)))).toNat)], .bool (Wd.less 2#128 (n * (Af.newton n k)))]) if_57 F H rfl rfl (wsub_c 2#128 (n * (Af.newton n k)) _)) ?_
        rintro xv w' ⟨hx, H⟩
        exact ⟨(fun cv hc => hx.trans (Option.some.inj (Option.some.inj hc))), ⟨g4, (fun h => (Sx.put_ne rfl _).trans (p8 h)), (by show Sx.Own _ _ _ _; rw [show Inv.add L 4 9 = false from f9]; exact H)⟩⟩
      · show Sx.StepAt _ _ _ _ _ _ _ 5
        intro L A w up hun hd F ⟨g4, p8, H⟩
        have f9 : L 9 = false := up 9 5 rfl hun
        rw [f9] at H
        have F := Sx.Fr.to F (kv' := [(19, .tuple #[.agg #[.int .u64 ((Wd.hi (2#128 - (n * (Af.newton n k)))).toNat), .int .u64 ((Wd.lo (2#128 - (n * (Af.newton n k)))).toNat)], .bool (Wd.less 2#128 (n * (Af.newton n k)))])]) ⟨rfl, trivial⟩
        refine Sx.step_on rfl (Sx.d_move F (Or.inl rfl) rfl) ?_
        rintro xv w' ⟨hx, rfl⟩
        exact ⟨(fun cv hc => hx.trans (Option.some.inj (Option.some.inj hc))), ⟨g4, (fun h => (Sx.put_ne rfl _).trans (p8 h)), (by show Sx.Own _ _ _ _; rw [show Inv.add L 5 9 = false from f9]; exact H)⟩⟩
      · show Sx.StepAt _ _ _ _ _ _ _ 6
        intro L A w up hun hd F ⟨g4, p8, H⟩
        have f9 : L 9 = false := up 9 6 rfl hun
        rw [f9] at H
        have F := Sx.Fr.to F (kv' := [(14, .tuple #[.agg #[.int .u64 ((Wd.hi (2#128 - (n * (Af.newton n k)))).toNat), .int .u64 ((Wd.lo (2#128 - (n * (Af.newton n k)))).toNat)], .bool (Wd.less 2#128 (n * (Af.newton n k)))])]) ⟨rfl, trivial⟩
        refine Sx.step_on rfl (Sx.d_extract (v := .agg #[.int .u64 ((Wd.hi (2#128 - (n * (Af.newton n k)))).toNat), .int .u64 ((Wd.lo (2#128 - (n * (Af.newton n k)))).toNat)]) F rfl rfl rfl) ?_
        rintro xv w' ⟨hx, rfl⟩
        exact ⟨(fun cv hc => hx.trans (Option.some.inj (Option.some.inj hc))), ⟨g4, (fun h => (Sx.put_ne rfl _).trans (p8 h)), (by show Sx.Own _ _ _ _; rw [show Inv.add L 6 9 = false from f9]; exact H)⟩⟩
      · show Sx.StepAt _ _ _ _ _ _ _ 7
        intro L A w up hun hd F ⟨g4, p8, H⟩
        have F := Sx.Fr.to F (kv' := [(14, .tuple #[.agg #[.int .u64 ((Wd.hi (2#128 - (n * (Af.newton n k)))).toNat), .int .u64 ((Wd.lo (2#128 - (n * (Af.newton n k)))).toNat)], .bool (Wd.less 2#128 (n * (Af.newton n k)))])]) ⟨rfl, trivial⟩
        refine Sx.step_on rfl (Sx.d_extract (v := .bool (Wd.less 2#128 (n * (Af.newton n k)))) F rfl rfl rfl) ?_
        rintro xv w' ⟨hx, rfl⟩
        exact ⟨(fun cv hc => hx.trans (Option.some.inj (Option.some.inj hc))), ⟨g4, (fun h => (Sx.put_ne rfl _).trans (p8 h)), H⟩⟩
      · show Sx.StepAt _ _ _ _ _ _ _ 8
        intro L A w up hun hd F ⟨g4, p8, H⟩
        have f8 : L 8 = false := hun
        have f9 : L 9 = false := up 9 8 rfl hun
        rw [f8, f9] at H
        have F := Sx.Fr.to F (kv' := []) trivial
        refine Sx.step_on rfl (Sx.d_alloc_at H rfl 3 [.int .u64 ((Wd.hi 0#128).toNat), .int .u64 ((Wd.lo 0#128).toNat)] zero_24) ?_
        rintro xv w' ⟨g', hx, H⟩
        exact ⟨(fun cv hc => by have h := Option.some.inj hc; cases h), ⟨g', (fun _ => (Sx.put_same F (by decide) _).trans hx), (by show Sx.Own _ _ _ _; rw [show Inv.add L 8 9 = false from f9]; exact H)⟩⟩
      · show Sx.StepAt _ _ _ _ _ _ _ 9
        intro L A w up hun hd F ⟨g4, p8, H⟩
        have t8 : L 8 = true := hd 8 rfl
        have f9 : L 9 = false := hun
        rw [t8, f9] at H
        have F := Sx.Fr.to F (kv' := [(20, .agg #[.int .u64 ((Wd.hi (2#128 - (n * (Af.newton n k)))).toNat), .int .u64 ((Wd.lo (2#128 - (n * (Af.newton n k)))).toNat)])]) ⟨rfl, trivial⟩
        have F := Sx.Fr.add F (p8 t8)
        refine Sx.step_on rfl (Sx.d_store (i := 3) (xs := [.int .u64 ((Wd.hi (2#128 - (n * (Af.newton n k)))).toNat), .int .u64 ((Wd.lo (2#128 - (n * (Af.newton n k)))).toNat)]) (us := [.int .u64 ((Wd.hi (2#128 - (n * (Af.newton n k)))).toNat), .int .u64 ((Wd.lo (2#128 - (n * (Af.newton n k)))).toNat)]) sz_24 F H rfl rfl rfl rfl rfl rfl rfl (Nat.le_of_ble_eq_true rfl) rfl) ?_
        intro xv w' H
        exact ⟨(fun cv hc => by have h := Option.some.inj hc; cases h), ⟨g4, p8, (by show Sx.Own _ _ _ _; rw [show Inv.add L 9 8 = true from t8]; exact H)⟩⟩
      · show Sx.StepAt _ _ _ _ _ _ _ 10
        intro L A w up hun hd F ⟨g4, p8, H⟩
        have t8 : L 8 = true := hd 8 rfl
        have t9 : L 9 = true := hd 9 rfl
        rw [t8, t9] at H
        have F := Sx.Fr.to F (kv' := [(21, .bool (Wd.less 2#128 (n * (Af.newton n k))))]) ⟨rfl, trivial⟩
        have F := Sx.Fr.add F (p8 t8)
        refine Sx.step_on rfl (Sx.d_move F (Or.inr rfl) rfl) ?_
        rintro xv w' ⟨hx, rfl⟩
        exact ⟨(fun cv hc => hx.trans (Option.some.inj (Option.some.inj hc))), ⟨g4, (fun h => (Sx.put_ne rfl _).trans (p8 h)), (by show Sx.Own _ _ _ _; rw [show Inv.add L 10 8 = true from t8, show Inv.add L 10 9 = true from t9]; exact H)⟩⟩
    · intro L A w hL F ⟨g4, p8, H⟩
      have t8 : L 8 = true := hL 8 rfl
      have t9 : L 9 = true := hL 9 rfl
      rw [t8, t9] at H
      have F := Sx.Fr.add F (p8 t8)
      have F := Sx.Fr.to F (kv' := [(1, .pointer (some ⟨g1, 0, none⟩)), (2, .pointer (some ⟨g2, 0, none⟩)), (3, .int .i64 0), (4, .pointer (some ⟨g3, 0, none⟩)), (12, .int .i64 k), (13, .bool true), (5, .pointer (some ⟨g4, 0, none⟩))]) ⟨rfl, rfl, rfl, rfl, rfl, rfl, rfl, trivial⟩
      refine hK10 _ _ ?_
      refine Sx.plain ?_
      refine Sx.sv F (Sx.d_load (i := 0) (xs := [.int .u64 ((Wd.hi (Af.newton n k)).toNat), .int .u64 ((Wd.lo (Af.newton n k)).toNat)]) rw_24 F H rfl rfl rfl rfl rfl) (Sx.wanted_none rfl _) rfl (by decide) (fun A F => ?_)
      refine Sx.sv F (Sx.d_load (i := 3) (xs := [.int .u64 ((Wd.hi (2#128 - (n * (Af.newton n k)))).toNat), .int .u64 ((Wd.lo (2#128 - (n * (Af.newton n k)))).toNat)]) rw_24 F H rfl rfl rfl rfl rfl) (Sx.wanted_none rfl _) rfl (by decide) (fun A F => ?_)
      refine Sx.sw F (Sx.d_call (vs := [.agg #[.int .u64 ((Wd.hi (Af.newton n k)).toNat), .int .u64 ((Wd.lo (Af.newton n k)).toNat)], .agg #[.int .u64 ((Wd.hi (2#128 - (n * (Af.newton n k)))).toNat), .int .u64 ((Wd.lo (2#128 - (n * (Af.newton n k)))).toNat)]]) (v := .agg #[.int .u64 ((Wd.hi ((Af.newton n k) * (2#128 - (n * (Af.newton n k))))).toNat), .int .u64 ((Wd.lo ((Af.newton n k) * (2#128 - (n * (Af.newton n k))))).toNat)]) if_31 F H rfl rfl (wmul_c (Af.newton n k) (2#128 - (n * (Af.newton n k))) _)) (Sx.wanted_none rfl _) rfl (by decide) (fun A w F H => ?_)
      refine Sx.ss F (Sx.d_store (i := 0) (xs := [.int .u64 ((Wd.hi ((Af.newton n k) * (2#128 - (n * (Af.newton n k))))).toNat), .int .u64 ((Wd.lo ((Af.newton n k) * (2#128 - (n * (Af.newton n k))))).toNat)]) (us := [.int .u64 ((Wd.hi ((Af.newton n k) * (2#128 - (n * (Af.newton n k))))).toNat), .int .u64 ((Wd.lo ((Af.newton n k) * (2#128 - (n * (Af.newton n k))))).toNat)]) sz_24 F H rfl rfl rfl rfl rfl rfl rfl (Nat.le_of_ble_eq_true rfl) rfl) (Sx.wanted_none rfl _) rfl (fun A w F (H : Sx.Own w0 _ [(true, g3, [.int .u64 ((Wd.hi ((Af.newton n k) * (2#128 - (n * (Af.newton n k))))).toNat), .int .u64 ((Wd.lo ((Af.newton n k) * (2#128 - (n * (Af.newton n k))))).toNat)]), (true, g2, [.int .u64 ((Wd.hi 0#128).toNat), .int .u64 ((Wd.lo 0#128).toNat)]), (true, g1, [.int .u64 ((Wd.hi n).toNat), .int .u64 ((Wd.lo n).toNat)]), (true, g4, [.int .u64 ((Wd.hi (2#128 - (n * (Af.newton n k)))).toNat), .int .u64 ((Wd.lo (2#128 - (n * (Af.newton n k)))).toNat)])] []) => ?_)
      refine Sx.nil ?_
      refine hK9 _ _ ?_
      refine Sx.plain ?_
      refine Sx.sv F (Sx.d_bin (v := .int .i64 (k + 1 : Nat)) F rfl rfl rfl (Sx.i_addN rfl (Sx.in_i64 _ (by omega)))) (Sx.wanted_none rfl _) rfl (by decide) (fun A F => ?_)
      refine Sx.sv F (Sx.d_move F (Or.inl rfl) rfl) (Sx.wanted_none rfl _) rfl (by decide) (fun A F => ?_)
      refine Sx.nil ?_
      try dsimp only [Exit.then]
      exact ⟨7 - (k + 1), by omega, k + 1, rfl, by omega, F.to ⟨rfl, rfl, rfl, rfl, rfl, trivial⟩, H.to' [0, 1, 2] [] (by decide) (by decide) rfl rfl⟩
  · obtain rfl : k = 7 := by omega
    refine Sx.seq (fun K11 hK11 => ?_)
    refine Sx.plain ?_
    refine Sx.sv F (Sx.d_bin (v := .bool false) F rfl rfl rfl (Sx.i_lt (by decide))) (Sx.wanted_none rfl _) rfl (by decide) (fun A F => ?_)
    refine Sx.nil ?_
    refine hK11 _ _ ?_
    refine Sx.seq (fun K12 hK12 => ?_)
    refine Sx.condF F rfl ?_
    refine wp_exit ?_
    try dsimp only [Exit.then, Exit.jump]
    refine Sx.exit_here ?_
    refine hK5 _ _ ?_
    refine Sx.seq (fun K13 hK13 => ?_)
    refine Sx.plain ?_
    refine Sx.sv F (Sx.d_load (i := 0) (xs := [.int .u64 ((Wd.hi (Af.newton n 7)).toNat), .int .u64 ((Wd.lo (Af.newton n 7)).toNat)]) rw_24 F H rfl rfl rfl rfl rfl) (Sx.wanted_none rfl _) rfl (by decide) (fun A F => ?_)
    refine Sx.ss F (Sx.d_store (i := 1) (xs := [.int .u64 ((Wd.hi (Af.newton n 7)).toNat), .int .u64 ((Wd.lo (Af.newton n 7)).toNat)]) (us := [.int .u64 ((Wd.hi (Af.newton n 7)).toNat), .int .u64 ((Wd.lo (Af.newton n 7)).toNat)]) sz_24 F H rfl rfl rfl rfl rfl rfl rfl (Nat.le_of_ble_eq_true rfl) rfl) (Sx.wanted_none rfl _) rfl (fun A w F (H : Sx.Own w0 _ [(true, g3, [.int .u64 ((Wd.hi (Af.newton n 7)).toNat), .int .u64 ((Wd.lo (Af.newton n 7)).toNat)]), (true, g2, [.int .u64 ((Wd.hi (Af.newton n 7)).toNat), .int .u64 ((Wd.lo (Af.newton n 7)).toNat)]), (true, g1, [.int .u64 ((Wd.hi n).toNat), .int .u64 ((Wd.lo n).toNat)])] []) => ?_)
    refine Sx.sv F (Sx.d_move F (Or.inr rfl) rfl) (Sx.wanted_none rfl _) rfl (by decide) (fun A F => ?_)
    refine Sx.nil ?_
    refine hK13 _ _ ?_
    refine wp_ret ?_
    try dsimp only [Exit.then, Exit.inBlock, Exit.jump]
    refine Sx.ret2 F Try.results16 (Sx.res_row (i := 1) (xs := [.int .u64 ((Wd.hi (Af.newton n 7)).toNat), .int .u64 ((Wd.lo (Af.newton n 7)).toNat)]) rw_24 F H rfl rfl rfl rfl) (Sx.res_tmp (v := .int .i64 0) F rfl) ⟨?_, H.below⟩
    rfl
end Go.Proofs.Ytpbdffmgendboaa
