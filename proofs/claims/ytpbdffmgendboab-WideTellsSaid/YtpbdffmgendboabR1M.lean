/- The reference's Mul walked. -/
import Derived.Test.YtpbdffmgendboabR1
namespace Go.Proofs.Ytpbdffmgendboab
open Go Go.RowKit
set_option maxHeartbeats 8000000 in
set_option maxRecDepth 100000 in
theorem rmul_c (da db : BitVec 128) (w0 : World) : Calls Try.prog 27 #[.agg #[.int .u64 ((Wd.hi da).toNat), .int .u64 ((Wd.lo da).toNat)], .agg #[.int .u64 ((Wd.hi db).toNat), .int .u64 ((Wd.lo db).toNat)]] w0 fun e w' => e = .returned (.agg #[.int .u64 ((Wd.hi (da * db)).toNat), .int .u64 ((Wd.lo (da * db)).toNat)]) ∧ Below w0.heap.size w0 w' := by
  refine Sx.enter (args := [.agg #[.int .u64 ((Wd.hi da).toNat), .int .u64 ((Wd.lo da).toNat)], .agg #[.int .u64 ((Wd.hi db).toNat), .int .u64 ((Wd.lo db).toNat)]]) Try.func27 rfl Try.ntmps27 (Nat.le_of_ble_eq_true rfl) (fun A F => ?_)
  have H := Sx.Own.start w0
  refine Sx.seq (fun K1 hK1 => ?_)
  refine Sx.plain ?_
  refine Sx.sb F (Sx.d_box F H rfl rfl [.int .u64 ((Wd.hi da).toNat), .int .u64 ((Wd.lo da).toNat)] rfl) (Sx.wanted_none rfl _) rfl (by decide) (fun g1 A w F H => ?_)
  refine Sx.sb F (Sx.d_box F H rfl rfl [.int .u64 ((Wd.hi db).toNat), .int .u64 ((Wd.lo db).toNat)] rfl) (Sx.wanted_none rfl _) rfl (by decide) (fun g2 A w F H => ?_)
  refine Sx.sb F (Sx.d_alloc H rfl [.int .u64 ((Wd.hi 0#128).toNat), .int .u64 ((Wd.lo 0#128).toNat)] zero_43) (Sx.wanted_none rfl _) rfl (by decide) (fun g3 A w F H => ?_)
  refine Sx.nil ?_
  refine hK1 _ _ ?_
  refine Sx.seq (fun K2 hK2 => ?_)
  refine Sx.plain ?_
  refine Sx.sv F (Sx.d_load (i := 2) (xs := [.int .u64 ((Wd.hi da).toNat), .int .u64 ((Wd.lo da).toNat)]) rw_43 F H rfl rfl rfl rfl rfl) (Sx.wanted_none rfl _) rfl (by decide) (fun A F => ?_)
  refine Sx.sw F (Sx.d_call (vs := [.agg #[.int .u64 ((Wd.hi da).toNat), .int .u64 ((Wd.lo da).toNat)]]) (v := .agg #[.int .u64 ((Wd.lo da % 4294967296#64).toNat), .int .u64 ((Wd.lo da / 4294967296#64).toNat), .int .u64 ((Wd.hi da % 4294967296#64).toNat), .int .u64 ((Wd.hi da / 4294967296#64).toNat)]) if_56 F H rfl rfl (rdigits_c da _)) (Sx.wanted_none rfl _) rfl (by decide) (fun A w F H => ?_)
  refine Sx.sb F (Sx.d_alloc H rfl [.int .u64 0, .int .u64 0, .int .u64 0, .int .u64 0] zero_92) (Sx.wanted_none rfl _) rfl (by decide) (fun g4 A w F H => ?_)
  refine Sx.ss F (Sx.d_store (i := 0) (xs := [.int .u64 ((Wd.lo da % 4294967296#64).toNat), .int .u64 ((Wd.lo da / 4294967296#64).toNat), .int .u64 ((Wd.hi da % 4294967296#64).toNat), .int .u64 ((Wd.hi da / 4294967296#64).toNat)]) (us := [.int .u64 ((Wd.lo da % 4294967296#64).toNat), .int .u64 ((Wd.lo da / 4294967296#64).toNat), .int .u64 ((Wd.hi da % 4294967296#64).toNat), .int .u64 ((Wd.hi da / 4294967296#64).toNat)]) sz_92 F H rfl rfl rfl rfl rfl rfl rfl (Nat.le_of_ble_eq_true rfl) rfl) (Sx.wanted_none rfl _) rfl (fun A w F (H : Sx.Own w0 _ [(true, g4, [.int .u64 ((Wd.lo da % 4294967296#64).toNat), .int .u64 ((Wd.lo da / 4294967296#64).toNat), .int .u64 ((Wd.hi da % 4294967296#64).toNat), .int .u64 ((Wd.hi da / 4294967296#64).toNat)]), (true, g3, [.int .u64 ((Wd.hi 0#128).toNat), .int .u64 ((Wd.lo 0#128).toNat)]), (true, g2, [.int .u64 ((Wd.hi db).toNat), .int .u64 ((Wd.lo db).toNat)]), (true, g1, [.int .u64 ((Wd.hi da).toNat), .int .u64 ((Wd.lo da).toNat)])] []) => ?_)
  refine Sx.nil ?_
  refine hK2 _ _ ?_
  refine Sx.seq (fun K3 hK3 => ?_)
  refine Sx.plain ?_
  refine Sx.sv F (Sx.d_load (i := 2) (xs := [.int .u64 ((Wd.hi db).toNat), .int .u64 ((Wd.lo db).toNat)]) rw_43 F H rfl rfl rfl rfl rfl) (Sx.wanted_none rfl _) rfl (by decide) (fun A F => ?_)
  refine Sx.sw F (Sx.d_call (vs := [.agg #[.int .u64 ((Wd.hi db).toNat), .int .u64 ((Wd.lo db).toNat)]]) (v := .agg #[.int .u64 ((Wd.lo db % 4294967296#64).toNat), .int .u64 ((Wd.lo db / 4294967296#64).toNat), .int .u64 ((Wd.hi db % 4294967296#64).toNat), .int .u64 ((Wd.hi db / 4294967296#64).toNat)]) if_56 F H rfl rfl (rdigits_c db _)) (Sx.wanted_none rfl _) rfl (by decide) (fun A w F H => ?_)
  refine Sx.sb F (Sx.d_alloc H rfl [.int .u64 0, .int .u64 0, .int .u64 0, .int .u64 0] zero_92) (Sx.wanted_none rfl _) rfl (by decide) (fun g5 A w F H => ?_)
  refine Sx.ss F (Sx.d_store (i := 0) (xs := [.int .u64 ((Wd.lo db % 4294967296#64).toNat), .int .u64 ((Wd.lo db / 4294967296#64).toNat), .int .u64 ((Wd.hi db % 4294967296#64).toNat), .int .u64 ((Wd.hi db / 4294967296#64).toNat)]) (us := [.int .u64 ((Wd.lo db % 4294967296#64).toNat), .int .u64 ((Wd.lo db / 4294967296#64).toNat), .int .u64 ((Wd.hi db % 4294967296#64).toNat), .int .u64 ((Wd.hi db / 4294967296#64).toNat)]) sz_92 F H rfl rfl rfl rfl rfl rfl rfl (Nat.le_of_ble_eq_true rfl) rfl) (Sx.wanted_none rfl _) rfl (fun A w F (H : Sx.Own w0 _ [(true, g5, [.int .u64 ((Wd.lo db % 4294967296#64).toNat), .int .u64 ((Wd.lo db / 4294967296#64).toNat), .int .u64 ((Wd.hi db % 4294967296#64).toNat), .int .u64 ((Wd.hi db / 4294967296#64).toNat)]), (true, g4, [.int .u64 ((Wd.lo da % 4294967296#64).toNat), .int .u64 ((Wd.lo da / 4294967296#64).toNat), .int .u64 ((Wd.hi da % 4294967296#64).toNat), .int .u64 ((Wd.hi da / 4294967296#64).toNat)]), (true, g3, [.int .u64 ((Wd.hi 0#128).toNat), .int .u64 ((Wd.lo 0#128).toNat)]), (true, g2, [.int .u64 ((Wd.hi db).toNat), .int .u64 ((Wd.lo db).toNat)]), (true, g1, [.int .u64 ((Wd.hi da).toNat), .int .u64 ((Wd.lo da).toNat)])] []) => ?_)
  refine Sx.nil ?_
  refine hK3 _ _ ?_
  refine Sx.seq (fun K4 hK4 => ?_)
  refine Sx.plain ?_
  refine Sx.sv F (Sx.d_build (qs := #[]) (v := .agg #[.int .u64 0, .int .u64 0, .int .u64 0, .int .u64 0]) F rfl rfl (by kernel_rfl)) (Sx.wanted_none rfl _) rfl (by decide) (fun A F => ?_)
  refine Sx.sb F (Sx.d_alloc H rfl [.int .u64 0, .int .u64 0, .int .u64 0, .int .u64 0] zero_92) (Sx.wanted_none rfl _) rfl (by decide) (fun g6 A w F H => ?_)
  refine Sx.ss F (Sx.d_store (i := 0) (xs := [.int .u64 0, .int .u64 0, .int .u64 0, .int .u64 0]) (us := [.int .u64 0, .int .u64 0, .int .u64 0, .int .u64 0]) sz_92 F H rfl rfl rfl rfl rfl rfl rfl (Nat.le_of_ble_eq_true rfl) rfl) (Sx.wanted_none rfl _) rfl (fun A w F (H : Sx.Own w0 _ [(true, g6, [.int .u64 0, .int .u64 0, .int .u64 0, .int .u64 0]), (true, g5, [.int .u64 ((Wd.lo db % 4294967296#64).toNat), .int .u64 ((Wd.lo db / 4294967296#64).toNat), .int .u64 ((Wd.hi db % 4294967296#64).toNat), .int .u64 ((Wd.hi db / 4294967296#64).toNat)]), (true, g4, [.int .u64 ((Wd.lo da % 4294967296#64).toNat), .int .u64 ((Wd.lo da / 4294967296#64).toNat), .int .u64 ((Wd.hi da % 4294967296#64).toNat), .int .u64 ((Wd.hi da / 4294967296#64).toNat)]), (true, g3, [.int .u64 ((Wd.hi 0#128).toNat), .int .u64 ((Wd.lo 0#128).toNat)]), (true, g2, [.int .u64 ((Wd.hi db).toNat), .int .u64 ((Wd.lo db).toNat)]), (true, g1, [.int .u64 ((Wd.hi da).toNat), .int .u64 ((Wd.lo da).toNat)])] []) => ?_)
  refine Sx.nil ?_
  refine hK4 _ _ ?_
  refine Sx.seq (fun K5 hK5 => ?_)
  refine Sx.seq (fun K6 hK6 => ?_)
  refine Sx.plain ?_
  refine Sx.sv F (Sx.d_move F (Or.inr rfl) rfl) (Sx.wanted_none rfl _) rfl (by decide) (fun A F => ?_)
  refine Sx.nil ?_
  refine hK6 _ _ ?_
  refine wp_block ?_
  refine wp_loop_rounds 5 ?_
  try dsimp only [Exit.then]
  rw [rounds_succ]
  refine Sx.seq (fun K7 hK7 => ?_)
  refine Sx.seq (fun K8 hK8 => ?_)
  refine Sx.plain ?_
  refine Sx.sv F (Sx.d_move F (Or.inl rfl) rfl) (Sx.wanted_none rfl _) rfl (by decide) (fun A F => ?_)
  refine Sx.sv F (Sx.d_bin (v := .bool true) F rfl rfl rfl (Sx.i_lt (by decide))) (Sx.wanted_none rfl _) rfl (by decide) (fun A F => ?_)
  refine Sx.nil ?_
  refine hK8 _ _ ?_
  refine Sx.condT F rfl ?_
  refine wp_skip ?_
  refine hK7 _ _ ?_
  refine Sx.seq (fun K9 hK9 => ?_)
  refine wp_block ?_
  refine Sx.seq (fun K10 hK10 => ?_)
  refine Sx.plain ?_
  refine Sx.sv F (Sx.d_move F (Or.inr rfl) rfl) (Sx.wanted_none rfl _) rfl (by decide) (fun A F => ?_)
  refine Sx.nil ?_
  refine hK10 _ _ ?_
  refine Sx.seq (fun K11 hK11 => ?_)
  refine Sx.plain ?_
  refine Sx.sv F (Sx.d_move F (Or.inr rfl) rfl) (Sx.wanted_none rfl _) rfl (by decide) (fun A F => ?_)
  refine Sx.nil ?_
  refine hK11 _ _ ?_
  refine wp_block ?_
  refine wp_loop_rounds 5 ?_
  try dsimp only [Exit.then]
  rw [rounds_succ]
  refine Sx.seq (fun K12 hK12 => ?_)
  refine Sx.seq (fun K13 hK13 => ?_)
  refine Sx.plain ?_
  refine Sx.sv F (Sx.d_move F (Or.inl rfl) rfl) (Sx.wanted_none rfl _) rfl (by decide) (fun A F => ?_)
  refine Sx.sv F (Sx.d_move F (Or.inl rfl) rfl) (Sx.wanted_none rfl _) rfl (by decide) (fun A F => ?_)
  refine Sx.sv F (Sx.d_bin (v := .int .i64 0) F rfl rfl rfl (Sx.i_addS (by decide))) (Sx.wanted_none rfl _) rfl (by decide) (fun A F => ?_)
  refine Sx.sv F (Sx.d_bin (v := .bool true) F rfl rfl rfl (Sx.i_lt (by decide))) (Sx.wanted_none rfl _) rfl (by decide) (fun A F => ?_)
  refine Sx.nil ?_
  refine hK13 _ _ ?_
  refine Sx.condT F rfl ?_
  refine wp_skip ?_
  refine hK12 _ _ ?_
  refine Sx.seq (fun K14 hK14 => ?_)
  refine wp_block ?_
  refine Sx.seq (fun K15 hK15 => ?_)
  have F := Sx.Fr.to F (kv' := [(0, .agg #[.int .u64 ((Wd.hi da).toNat), .int .u64 ((Wd.lo da).toNat)]), (1, .agg #[.int .u64 ((Wd.hi db).toNat), .int .u64 ((Wd.lo db).toNat)]), (2, .pointer (some ⟨g1, 0, none⟩)), (3, .pointer (some ⟨g2, 0, none⟩)), (4, .pointer (some ⟨g3, 0, none⟩)), (12, .agg #[.int .u64 ((Wd.hi da).toNat), .int .u64 ((Wd.lo da).toNat)]), (13, .agg #[.int .u64 ((Wd.lo da % 4294967296#64).toNat), .int .u64 ((Wd.lo da / 4294967296#64).toNat), .int .u64 ((Wd.hi da % 4294967296#64).toNat), .int .u64 ((Wd.hi da / 4294967296#64).toNat)]), (5, .pointer (some ⟨g4, 0, none⟩)), (14, .agg #[.int .u64 ((Wd.hi db).toNat), .int .u64 ((Wd.lo db).toNat)]), (15, .agg #[.int .u64 ((Wd.lo db % 4294967296#64).toNat), .int .u64 ((Wd.lo db / 4294967296#64).toNat), .int .u64 ((Wd.hi db % 4294967296#64).toNat), .int .u64 ((Wd.hi db / 4294967296#64).toNat)]), (6, .pointer (some ⟨g5, 0, none⟩)), (16, .agg #[.int .u64 0, .int .u64 0, .int .u64 0, .int .u64 0]), (7, .pointer (some ⟨g6, 0, none⟩)), (8, .int .i64 0), (17, .int .i64 0), (18, .bool true), (9, .int .u64 0), (10, .int .i64 0), (21, .int .i64 0), (22, .int .i64 0), (23, .int .i64 0), (24, .bool true)]) ⟨rfl, rfl, rfl, rfl, rfl, rfl, rfl, rfl, rfl, rfl, rfl, rfl, rfl, rfl, rfl, rfl, rfl, rfl, rfl, rfl, rfl, rfl, trivial⟩
  refine Sx.drawn F (by kernel_rfl) (by kernel_rfl) (by kernel_rfl) [some (.int .i64 0), some (.int .i64 0), some (.int .i64 0), some (.pointer (some ⟨g6, 0, none⟩)), some (.int .u64 0), some (.int .i64 0), some (.pointer (some ⟨g4, 0, none⟩)), some (.int .u64 ((Wd.lo da % 4294967296#64).toNat)), some (.int .i64 0), some (.pointer (some ⟨g5, 0, none⟩)), some (.int .u64 ((Wd.lo db % 4294967296#64).toNat)), some (.int .u64 (((Wd.lo da % 4294967296#64) * (Wd.lo db % 4294967296#64)).toNat)), some (.int .u64 ((0#64 + ((Wd.lo da % 4294967296#64) * (Wd.lo db % 4294967296#64))).toNat)), some (.int .u64 0), some (.int .u64 (((0#64 + ((Wd.lo da % 4294967296#64) * (Wd.lo db % 4294967296#64))) + 0#64).toNat)), some (.int .u64 (((0#64 + ((Wd.lo da % 4294967296#64) * (Wd.lo db % 4294967296#64))) + 0#64).toNat))] (fun L A w => Sx.Own w0 w [(true, g6, [.int .u64 0, .int .u64 0, .int .u64 0, .int .u64 0]), (true, g5, [.int .u64 ((Wd.lo db % 4294967296#64).toNat), .int .u64 ((Wd.lo db / 4294967296#64).toNat), .int .u64 ((Wd.hi db % 4294967296#64).toNat), .int .u64 ((Wd.hi db / 4294967296#64).toNat)]), (true, g4, [.int .u64 ((Wd.lo da % 4294967296#64).toNat), .int .u64 ((Wd.lo da / 4294967296#64).toNat), .int .u64 ((Wd.hi da % 4294967296#64).toNat), .int .u64 ((Wd.hi da / 4294967296#64).toNat)]), (true, g3, [.int .u64 ((Wd.hi 0#128).toNat), .int .u64 ((Wd.lo 0#128).toNat)]), (true, g2, [.int .u64 ((Wd.hi db).toNat), .int .u64 ((Wd.lo db).toNat)]), (true, g1, [.int .u64 ((Wd.hi da).toNat), .int .u64 ((Wd.lo da).toNat)])] []) H.drew ?_ ?_
  · refine ⟨?_, ?_, ?_, ?_, ?_, ?_, ?_, ?_, ?_, ?_, ?_, ?_, ?_, ?_, ?_, ?_, trivial⟩
    · show Sx.StepAt _ _ _ _ _ _ _ 0
      intro L A w up hun hd F H
      have F := Sx.Fr.to F (kv' := [(8, .int .i64 0)]) ⟨rfl, trivial⟩
      refine Sx.step_on rfl (Sx.d_move F (Or.inl rfl) rfl) ?_
      rintro xv w' ⟨hx, rfl⟩
      exact ⟨(fun cv hc => hx.trans (Option.some.inj (Option.some.inj hc))), H⟩
    · show Sx.StepAt _ _ _ _ _ _ _ 1
      intro L A w up hun hd F H
      have F := Sx.Fr.to F (kv' := [(10, .int .i64 0)]) ⟨rfl, trivial⟩
      refine Sx.step_on rfl (Sx.d_move F (Or.inl rfl) rfl) ?_
      rintro xv w' ⟨hx, rfl⟩
      exact ⟨(fun cv hc => hx.trans (Option.some.inj (Option.some.inj hc))), H⟩
    · show Sx.StepAt _ _ _ _ _ _ _ 2
      intro L A w up hun hd F H
      have F := Sx.Fr.to F (kv' := [(27, .int .i64 0), (28, .int .i64 0)]) ⟨rfl, rfl, trivial⟩
      refine Sx.step_on rfl (Sx.d_bin (v := .int .i64 0) F rfl rfl rfl (Sx.i_addS (by decide))) ?_
      rintro xv w' ⟨hx, rfl⟩
      exact ⟨(fun cv hc => hx.trans (Option.some.inj (Option.some.inj hc))), H⟩
    · show Sx.StepAt _ _ _ _ _ _ _ 3
      intro L A w up hun hd F H
      have F := Sx.Fr.to F (kv' := [(7, .pointer (some ⟨g6, 0, none⟩)), (29, .int .i64 0)]) ⟨rfl, rfl, trivial⟩
      refine Sx.step_on rfl (Sx.d_iaddr (v := .pointer (some ⟨g6, 0, none⟩)) F rfl rfl rfl (by kernel_rfl)) ?_
      rintro xv w' ⟨hx, rfl⟩
      exact ⟨(fun cv hc => hx.trans (Option.some.inj (Option.some.inj hc))), H⟩
    · show Sx.StepAt _ _ _ _ _ _ _ 4
      intro L A w up hun hd F H
      have F := Sx.Fr.to F (kv' := [(30, .pointer (some ⟨g6, 0, none⟩))]) ⟨rfl, trivial⟩
      refine Sx.step_on rfl (Sx.d_load1 (i := 0) (v := .int .u64 0) one_22 F H rfl rfl rfl rfl) ?_
      rintro xv w' ⟨hx, rfl⟩
      exact ⟨(fun cv hc => hx.trans (Option.some.inj (Option.some.inj hc))), H⟩
    · show Sx.StepAt _ _ _ _ _ _ _ 5
      intro L A w up hun hd F H
      have F := Sx.Fr.to F (kv' := [(8, .int .i64 0)]) ⟨rfl, trivial⟩
      refine Sx.step_on rfl (Sx.d_move F (Or.inl rfl) rfl) ?_
      rintro xv w' ⟨hx, rfl⟩
      exact ⟨(fun cv hc => hx.trans (Option.some.inj (Option.some.inj hc))), H⟩
    · show Sx.StepAt _ _ _ _ _ _ _ 6
      intro L A w up hun hd F H
      have F := Sx.Fr.to F (kv' := [(5, .pointer (some ⟨g4, 0, none⟩)), (32, .int .i64 0)]) ⟨rfl, rfl, trivial⟩
      refine Sx.step_on rfl (Sx.d_iaddr (v := .pointer (some ⟨g4, 0, none⟩)) F rfl rfl rfl (by kernel_rfl)) ?_
      rintro xv w' ⟨hx, rfl⟩
      exact ⟨(fun cv hc => hx.trans (Option.some.inj (Option.some.inj hc))), H⟩
    · show Sx.StepAt _ _ _ _ _ _ _ 7
      intro L A w up hun hd F H
      have F := Sx.Fr.to F (kv' := [(33, .pointer (some ⟨g4, 0, none⟩))]) ⟨rfl, trivial⟩
      refine Sx.step_on rfl (Sx.d_load1 (i := 2) (v := .int .u64 ((Wd.lo da % 4294967296#64).toNat)) one_22 F H rfl rfl rfl rfl) ?_
      rintro xv w' ⟨hx, rfl⟩
      exact ⟨(fun cv hc => hx.trans (Option.some.inj (Option.some.inj hc))), H⟩
    · show Sx.StepAt _ _ _ _ _ _ _ 8
      intro L A w up hun hd F H
      have F := Sx.Fr.to F (kv' := [(10, .int .i64 0)]) ⟨rfl, trivial⟩
      refine Sx.step_on rfl (Sx.d_move F (Or.inl rfl) rfl) ?_
      rintro xv w' ⟨hx, rfl⟩
      exact ⟨(fun cv hc => hx.trans (Option.some.inj (Option.some.inj hc))), H⟩
    · show Sx.StepAt _ _ _ _ _ _ _ 9
      intro L A w up hun hd F H
      have F := Sx.Fr.to F (kv' := [(6, .pointer (some ⟨g5, 0, none⟩)), (35, .int .i64 0)]) ⟨rfl, rfl, trivial⟩
      refine Sx.step_on rfl (Sx.d_iaddr (v := .pointer (some ⟨g5, 0, none⟩)) F rfl rfl rfl (by kernel_rfl)) ?_
      rintro xv w' ⟨hx, rfl⟩
      exact ⟨(fun cv hc => hx.trans (Option.some.inj (Option.some.inj hc))), H⟩
    · show Sx.StepAt _ _ _ _ _ _ _ 10
      intro L A w up hun hd F H
      have F := Sx.Fr.to F (kv' := [(36, .pointer (some ⟨g5, 0, none⟩))]) ⟨rfl, trivial⟩
      refine Sx.step_on rfl (Sx.d_load1 (i := 1) (v := .int .u64 ((Wd.lo db % 4294967296#64).toNat)) one_22 F H rfl rfl rfl rfl) ?_
      rintro xv w' ⟨hx, rfl⟩
      exact ⟨(fun cv hc => hx.trans (Option.some.inj (Option.some.inj hc))), H⟩
    · show Sx.StepAt _ _ _ _ _ _ _ 11
      intro L A w up hun hd F H
      have F := Sx.Fr.to F (kv' := [(34, .int .u64 ((Wd.lo da % 4294967296#64).toNat)), (37, .int .u64 ((Wd.lo db % 4294967296#64).toNat))]) ⟨rfl, rfl, trivial⟩
      refine Sx.step_on rfl (Sx.d_bin (v := .int .u64 (((Wd.lo da % 4294967296#64) * (Wd.lo db % 4294967296#64)).toNat)) F rfl rfl rfl (Sx.i_mul64 (Wd.lo da % 4294967296#64) (Wd.lo db % 4294967296#64))) ?_
      rintro xv w' ⟨hx, rfl⟩
      exact ⟨(fun cv hc => hx.trans (Option.some.inj (Option.some.inj hc))), H⟩
    · show Sx.StepAt _ _ _ _ _ _ _ 12
      intro L A w up hun hd F H
      have F := Sx.Fr.to F (kv' := [(31, .int .u64 0), (38, .int .u64 (((Wd.lo da % 4294967296#64) * (Wd.lo db % 4294967296#64)).toNat))]) ⟨rfl, rfl, trivial⟩
      refine Sx.step_on rfl (Sx.d_bin (v := .int .u64 ((0#64 + ((Wd.lo da % 4294967296#64) * (Wd.lo db % 4294967296#64))).toNat)) F rfl rfl rfl (Sx.i_add64 0#64 ((Wd.lo da % 4294967296#64) * (Wd.lo db % 4294967296#64)))) ?_
      rintro xv w' ⟨hx, rfl⟩
      exact ⟨(fun cv hc => hx.trans (Option.some.inj (Option.some.inj hc))), H⟩
    · show Sx.StepAt _ _ _ _ _ _ _ 13
      intro L A w up hun hd F H
      have F := Sx.Fr.to F (kv' := [(9, .int .u64 0)]) ⟨rfl, trivial⟩
      refine Sx.step_on rfl (Sx.d_move F (Or.inl rfl) rfl) ?_
      rintro xv w' ⟨hx, rfl⟩
      exact ⟨(fun cv hc => hx.trans (Option.some.inj (Option.some.inj hc))), H⟩
    · show Sx.StepAt _ _ _ _ _ _ _ 14
      intro L A w up hun hd F H
      have F := Sx.Fr.to F (kv' := [(39, .int .u64 ((0#64 + ((Wd.lo da % 4294967296#64) * (Wd.lo db % 4294967296#64))).toNat)), (40, .int .u64 0)]) ⟨rfl, rfl, trivial⟩
      refine Sx.step_on rfl (Sx.d_bin (v := .int .u64 (((0#64 + ((Wd.lo da % 4294967296#64) * (Wd.lo db % 4294967296#64))) + 0#64).toNat)) F rfl rfl rfl (Sx.i_add64 (0#64 + ((Wd.lo da % 4294967296#64) * (Wd.lo db % 4294967296#64))) 0#64)) ?_
      rintro xv w' ⟨hx, rfl⟩
      exact ⟨(fun cv hc => hx.trans (Option.some.inj (Option.some.inj hc))), H⟩
    · show Sx.StepAt _ _ _ _ _ _ _ 15
      intro L A w up hun hd F H
      have F := Sx.Fr.to F (kv' := [(41, .int .u64 (((0#64 + ((Wd.lo da % 4294967296#64) * (Wd.lo db % 4294967296#64))) + 0#64).toNat))]) ⟨rfl, trivial⟩
      refine Sx.step_on rfl (Sx.d_move F (Or.inr rfl) rfl) ?_
      rintro xv w' ⟨hx, rfl⟩
      exact ⟨(fun cv hc => hx.trans (Option.some.inj (Option.some.inj hc))), H⟩
  · intro L A w hL F H
    have F := Sx.Fr.to F (kv' := [(0, .agg #[.int .u64 ((Wd.hi da).toNat), .int .u64 ((Wd.lo da).toNat)]), (1, .agg #[.int .u64 ((Wd.hi db).toNat), .int .u64 ((Wd.lo db).toNat)]), (2, .pointer (some ⟨g1, 0, none⟩)), (3, .pointer (some ⟨g2, 0, none⟩)), (4, .pointer (some ⟨g3, 0, none⟩)), (12, .agg #[.int .u64 ((Wd.hi da).toNat), .int .u64 ((Wd.lo da).toNat)]), (13, .agg #[.int .u64 ((Wd.lo da % 4294967296#64).toNat), .int .u64 ((Wd.lo da / 4294967296#64).toNat), .int .u64 ((Wd.hi da % 4294967296#64).toNat), .int .u64 ((Wd.hi da / 4294967296#64).toNat)]), (5, .pointer (some ⟨g4, 0, none⟩)), (14, .agg #[.int .u64 ((Wd.hi db).toNat), .int .u64 ((Wd.lo db).toNat)]), (15, .agg #[.int .u64 ((Wd.lo db % 4294967296#64).toNat), .int .u64 ((Wd.lo db / 4294967296#64).toNat), .int .u64 ((Wd.hi db % 4294967296#64).toNat), .int .u64 ((Wd.hi db / 4294967296#64).toNat)]), (6, .pointer (some ⟨g5, 0, none⟩)), (16, .agg #[.int .u64 0, .int .u64 0, .int .u64 0, .int .u64 0]), (7, .pointer (some ⟨g6, 0, none⟩)), (8, .int .i64 0), (17, .int .i64 0), (18, .bool true), (9, .int .u64 0), (10, .int .i64 0), (21, .int .i64 0), (22, .int .i64 0), (23, .int .i64 0), (24, .bool true), (11, .int .u64 (((0#64 + ((Wd.lo da % 4294967296#64) * (Wd.lo db % 4294967296#64))) + 0#64).toNat))]) ⟨rfl, rfl, rfl, rfl, rfl, rfl, rfl, rfl, rfl, rfl, rfl, rfl, rfl, rfl, rfl, rfl, rfl, rfl, rfl, rfl, rfl, rfl, rfl, trivial⟩
    obtain ⟨n00, hn00⟩ : ∃ q, ((0#64 + ((Wd.lo da % 4294967296#64) * (Wd.lo db % 4294967296#64))) + 0#64) = q := ⟨_, rfl⟩
    rw [hn00] at F
    refine hK15 _ _ ?_
    refine Sx.seq (fun K16 hK16 => ?_)
    refine Sx.plain ?_
    refine Sx.sv F (Sx.d_move F (Or.inl rfl) rfl) (Sx.wanted_none rfl _) rfl (by decide) (fun A F => ?_)
    refine Sx.sv F (Sx.d_move F (Or.inl rfl) rfl) (Sx.wanted_none rfl _) rfl (by decide) (fun A F => ?_)
    refine Sx.sv F (Sx.d_bin (v := .int .i64 0) F rfl rfl rfl (Sx.i_addS (by decide))) (Sx.wanted_none rfl _) rfl (by decide) (fun A F => ?_)
    refine Sx.sv F (Sx.d_move F (Or.inl rfl) rfl) (Sx.wanted_none rfl _) rfl (by decide) (fun A F => ?_)
    refine Sx.sv F (Sx.d_bin (v := .int .u64 ((n00 % 4294967296#64).toNat)) F rfl rfl rfl (Sx.i_rem64 n00 4294967296#64 (by decide))) (Sx.wanted_none rfl _) rfl (by decide) (fun A F => ?_)
    refine Sx.sv F (Sx.d_iaddr (v := .pointer (some ⟨g6, 0, none⟩)) F rfl rfl rfl (by kernel_rfl)) (Sx.wanted_none rfl _) rfl (by decide) (fun A F => ?_)
    refine Sx.ss F (Sx.d_store (i := 0) (xs := [.int .u64 ((n00 % 4294967296#64).toNat)]) (us := [.int .u64 ((n00 % 4294967296#64).toNat), .int .u64 0, .int .u64 0, .int .u64 0]) sz_22 F H rfl rfl rfl rfl rfl rfl rfl (Nat.le_of_ble_eq_true rfl) rfl) (Sx.wanted_none rfl _) rfl (fun A w F (H : Sx.Own w0 _ [(true, g6, [.int .u64 ((n00 % 4294967296#64).toNat), .int .u64 0, .int .u64 0, .int .u64 0]), (true, g5, [.int .u64 ((Wd.lo db % 4294967296#64).toNat), .int .u64 ((Wd.lo db / 4294967296#64).toNat), .int .u64 ((Wd.hi db % 4294967296#64).toNat), .int .u64 ((Wd.hi db / 4294967296#64).toNat)]), (true, g4, [.int .u64 ((Wd.lo da % 4294967296#64).toNat), .int .u64 ((Wd.lo da / 4294967296#64).toNat), .int .u64 ((Wd.hi da % 4294967296#64).toNat), .int .u64 ((Wd.hi da / 4294967296#64).toNat)]), (true, g3, [.int .u64 ((Wd.hi 0#128).toNat), .int .u64 ((Wd.lo 0#128).toNat)]), (true, g2, [.int .u64 ((Wd.hi db).toNat), .int .u64 ((Wd.lo db).toNat)]), (true, g1, [.int .u64 ((Wd.hi da).toNat), .int .u64 ((Wd.lo da).toNat)])] []) => ?_)
    refine Sx.nil ?_
    refine hK16 _ _ ?_
    refine Sx.plain ?_
    refine Sx.sv F (Sx.d_move F (Or.inl rfl) rfl) (Sx.wanted_none rfl _) rfl (by decide) (fun A F => ?_)
    refine Sx.sv F (Sx.d_bin (v := .int .u64 ((n00 / 4294967296#64).toNat)) F rfl rfl rfl (Sx.i_quo64 n00 4294967296#64 (by decide))) (Sx.wanted_none rfl _) rfl (by decide) (fun A F => ?_)
    refine Sx.sv F (Sx.d_move F (Or.inr rfl) rfl) (Sx.wanted_none rfl _) rfl (by decide) (fun A F => ?_)
    refine Sx.nil ?_
    refine hK14 _ _ ?_
    refine Sx.plain ?_
    refine Sx.sv F (Sx.d_move F (Or.inl rfl) rfl) (Sx.wanted_none rfl _) rfl (by decide) (fun A F => ?_)
    refine Sx.sv F (Sx.d_bin (v := .int .i64 1) F rfl rfl rfl (Sx.i_addS (by decide))) (Sx.wanted_none rfl _) rfl (by decide) (fun A F => ?_)
    refine Sx.sv F (Sx.d_move F (Or.inr rfl) rfl) (Sx.wanted_none rfl _) rfl (by decide) (fun A F => ?_)
    refine Sx.nil ?_
    try dsimp only [Exit.then]
    rw [rounds_succ]
    refine Sx.seq (fun K17 hK17 => ?_)
    refine Sx.seq (fun K18 hK18 => ?_)
    refine Sx.plain ?_
    refine Sx.sv F (Sx.d_move F (Or.inl rfl) rfl) (Sx.wanted_none rfl _) rfl (by decide) (fun A F => ?_)
    refine Sx.sv F (Sx.d_move F (Or.inl rfl) rfl) (Sx.wanted_none rfl _) rfl (by decide) (fun A F => ?_)
    refine Sx.sv F (Sx.d_bin (v := .int .i64 1) F rfl rfl rfl (Sx.i_addS (by decide))) (Sx.wanted_none rfl _) rfl (by decide) (fun A F => ?_)
    refine Sx.sv F (Sx.d_bin (v := .bool true) F rfl rfl rfl (Sx.i_lt (by decide))) (Sx.wanted_none rfl _) rfl (by decide) (fun A F => ?_)
    refine Sx.nil ?_
    refine hK18 _ _ ?_
    refine Sx.condT F rfl ?_
    refine wp_skip ?_
    refine hK17 _ _ ?_
    refine Sx.seq (fun K19 hK19 => ?_)
    refine wp_block ?_
    refine Sx.seq (fun K20 hK20 => ?_)
    have F := Sx.Fr.to F (kv' := [(0, .agg #[.int .u64 ((Wd.hi da).toNat), .int .u64 ((Wd.lo da).toNat)]), (1, .agg #[.int .u64 ((Wd.hi db).toNat), .int .u64 ((Wd.lo db).toNat)]), (2, .pointer (some ⟨g1, 0, none⟩)), (3, .pointer (some ⟨g2, 0, none⟩)), (4, .pointer (some ⟨g3, 0, none⟩)), (12, .agg #[.int .u64 ((Wd.hi da).toNat), .int .u64 ((Wd.lo da).toNat)]), (13, .agg #[.int .u64 ((Wd.lo da % 4294967296#64).toNat), .int .u64 ((Wd.lo da / 4294967296#64).toNat), .int .u64 ((Wd.hi da % 4294967296#64).toNat), .int .u64 ((Wd.hi da / 4294967296#64).toNat)]), (5, .pointer (some ⟨g4, 0, none⟩)), (14, .agg #[.int .u64 ((Wd.hi db).toNat), .int .u64 ((Wd.lo db).toNat)]), (15, .agg #[.int .u64 ((Wd.lo db % 4294967296#64).toNat), .int .u64 ((Wd.lo db / 4294967296#64).toNat), .int .u64 ((Wd.hi db % 4294967296#64).toNat), .int .u64 ((Wd.hi db / 4294967296#64).toNat)]), (6, .pointer (some ⟨g5, 0, none⟩)), (16, .agg #[.int .u64 0, .int .u64 0, .int .u64 0, .int .u64 0]), (7, .pointer (some ⟨g6, 0, none⟩)), (8, .int .i64 0), (17, .int .i64 0), (18, .bool true), (9, .int .u64 ((n00 / 4294967296#64).toNat)), (10, .int .i64 1), (21, .int .i64 0), (22, .int .i64 1), (23, .int .i64 1), (24, .bool true), (42, .int .i64 0), (43, .int .i64 0), (44, .int .i64 0), (45, .int .u64 n00.toNat), (46, .int .u64 ((n00 % 4294967296#64).toNat)), (47, .pointer (some ⟨g6, 0, none⟩)), (48, .int .u64 n00.toNat), (49, .int .u64 ((n00 / 4294967296#64).toNat)), (25, .int .i64 0), (26, .int .i64 1)]) ⟨rfl, rfl, rfl, rfl, rfl, rfl, rfl, rfl, rfl, rfl, rfl, rfl, rfl, rfl, rfl, rfl, rfl, rfl, rfl, rfl, rfl, rfl, rfl, rfl, rfl, rfl, rfl, rfl, rfl, rfl, rfl, rfl, trivial⟩
    refine Sx.drawn F (by kernel_rfl) (by kernel_rfl) (by kernel_rfl) [some (.int .i64 0), some (.int .i64 1), some (.int .i64 1), some (.pointer (some ⟨g6, 1, none⟩)), some (.int .u64 0), some (.int .i64 0), some (.pointer (some ⟨g4, 0, none⟩)), some (.int .u64 ((Wd.lo da % 4294967296#64).toNat)), some (.int .i64 1), some (.pointer (some ⟨g5, 1, none⟩)), some (.int .u64 ((Wd.lo db / 4294967296#64).toNat)), some (.int .u64 (((Wd.lo da % 4294967296#64) * (Wd.lo db / 4294967296#64)).toNat)), some (.int .u64 ((0#64 + ((Wd.lo da % 4294967296#64) * (Wd.lo db / 4294967296#64))).toNat)), some (.int .u64 ((n00 / 4294967296#64).toNat)), some (.int .u64 (((0#64 + ((Wd.lo da % 4294967296#64) * (Wd.lo db / 4294967296#64))) + (n00 / 4294967296#64)).toNat)), some (.int .u64 (((0#64 + ((Wd.lo da % 4294967296#64) * (Wd.lo db / 4294967296#64))) + (n00 / 4294967296#64)).toNat))] (fun L A w => Sx.Own w0 w [(true, g6, [.int .u64 ((n00 % 4294967296#64).toNat), .int .u64 0, .int .u64 0, .int .u64 0]), (true, g5, [.int .u64 ((Wd.lo db % 4294967296#64).toNat), .int .u64 ((Wd.lo db / 4294967296#64).toNat), .int .u64 ((Wd.hi db % 4294967296#64).toNat), .int .u64 ((Wd.hi db / 4294967296#64).toNat)]), (true, g4, [.int .u64 ((Wd.lo da % 4294967296#64).toNat), .int .u64 ((Wd.lo da / 4294967296#64).toNat), .int .u64 ((Wd.hi da % 4294967296#64).toNat), .int .u64 ((Wd.hi da / 4294967296#64).toNat)]), (true, g3, [.int .u64 ((Wd.hi 0#128).toNat), .int .u64 ((Wd.lo 0#128).toNat)]), (true, g2, [.int .u64 ((Wd.hi db).toNat), .int .u64 ((Wd.lo db).toNat)]), (true, g1, [.int .u64 ((Wd.hi da).toNat), .int .u64 ((Wd.lo da).toNat)])] []) H.drew ?_ ?_
    · refine ⟨?_, ?_, ?_, ?_, ?_, ?_, ?_, ?_, ?_, ?_, ?_, ?_, ?_, ?_, ?_, ?_, trivial⟩
      · show Sx.StepAt _ _ _ _ _ _ _ 0
        intro L A w up hun hd F H
        have F := Sx.Fr.to F (kv' := [(8, .int .i64 0)]) ⟨rfl, trivial⟩
        refine Sx.step_on rfl (Sx.d_move F (Or.inl rfl) rfl) ?_
        rintro xv w' ⟨hx, rfl⟩
        exact ⟨(fun cv hc => hx.trans (Option.some.inj (Option.some.inj hc))), H⟩
      · show Sx.StepAt _ _ _ _ _ _ _ 1
        intro L A w up hun hd F H
        have F := Sx.Fr.to F (kv' := [(10, .int .i64 1)]) ⟨rfl, trivial⟩
        refine Sx.step_on rfl (Sx.d_move F (Or.inl rfl) rfl) ?_
        rintro xv w' ⟨hx, rfl⟩
        exact ⟨(fun cv hc => hx.trans (Option.some.inj (Option.some.inj hc))), H⟩
      · show Sx.StepAt _ _ _ _ _ _ _ 2
        intro L A w up hun hd F H
        have F := Sx.Fr.to F (kv' := [(27, .int .i64 0), (28, .int .i64 1)]) ⟨rfl, rfl, trivial⟩
        refine Sx.step_on rfl (Sx.d_bin (v := .int .i64 1) F rfl rfl rfl (Sx.i_addS (by decide))) ?_
        rintro xv w' ⟨hx, rfl⟩
        exact ⟨(fun cv hc => hx.trans (Option.some.inj (Option.some.inj hc))), H⟩
      · show Sx.StepAt _ _ _ _ _ _ _ 3
        intro L A w up hun hd F H
        have F := Sx.Fr.to F (kv' := [(7, .pointer (some ⟨g6, 0, none⟩)), (29, .int .i64 1)]) ⟨rfl, rfl, trivial⟩
        refine Sx.step_on rfl (Sx.d_iaddr (v := .pointer (some ⟨g6, 1, none⟩)) F rfl rfl rfl (by kernel_rfl)) ?_
        rintro xv w' ⟨hx, rfl⟩
        exact ⟨(fun cv hc => hx.trans (Option.some.inj (Option.some.inj hc))), H⟩
      · show Sx.StepAt _ _ _ _ _ _ _ 4
        intro L A w up hun hd F H
        have F := Sx.Fr.to F (kv' := [(30, .pointer (some ⟨g6, 1, none⟩))]) ⟨rfl, trivial⟩
        refine Sx.step_on rfl (Sx.d_load1 (i := 0) (v := .int .u64 0) one_22 F H rfl rfl rfl rfl) ?_
        rintro xv w' ⟨hx, rfl⟩
        exact ⟨(fun cv hc => hx.trans (Option.some.inj (Option.some.inj hc))), H⟩
      · show Sx.StepAt _ _ _ _ _ _ _ 5
        intro L A w up hun hd F H
        have F := Sx.Fr.to F (kv' := [(8, .int .i64 0)]) ⟨rfl, trivial⟩
        refine Sx.step_on rfl (Sx.d_move F (Or.inl rfl) rfl) ?_
        rintro xv w' ⟨hx, rfl⟩
        exact ⟨(fun cv hc => hx.trans (Option.some.inj (Option.some.inj hc))), H⟩
      · show Sx.StepAt _ _ _ _ _ _ _ 6
        intro L A w up hun hd F H
        have F := Sx.Fr.to F (kv' := [(5, .pointer (some ⟨g4, 0, none⟩)), (32, .int .i64 0)]) ⟨rfl, rfl, trivial⟩
        refine Sx.step_on rfl (Sx.d_iaddr (v := .pointer (some ⟨g4, 0, none⟩)) F rfl rfl rfl (by kernel_rfl)) ?_
        rintro xv w' ⟨hx, rfl⟩
        exact ⟨(fun cv hc => hx.trans (Option.some.inj (Option.some.inj hc))), H⟩
      · show Sx.StepAt _ _ _ _ _ _ _ 7
        intro L A w up hun hd F H
        have F := Sx.Fr.to F (kv' := [(33, .pointer (some ⟨g4, 0, none⟩))]) ⟨rfl, trivial⟩
        refine Sx.step_on rfl (Sx.d_load1 (i := 2) (v := .int .u64 ((Wd.lo da % 4294967296#64).toNat)) one_22 F H rfl rfl rfl rfl) ?_
        rintro xv w' ⟨hx, rfl⟩
        exact ⟨(fun cv hc => hx.trans (Option.some.inj (Option.some.inj hc))), H⟩
      · show Sx.StepAt _ _ _ _ _ _ _ 8
        intro L A w up hun hd F H
        have F := Sx.Fr.to F (kv' := [(10, .int .i64 1)]) ⟨rfl, trivial⟩
        refine Sx.step_on rfl (Sx.d_move F (Or.inl rfl) rfl) ?_
        rintro xv w' ⟨hx, rfl⟩
        exact ⟨(fun cv hc => hx.trans (Option.some.inj (Option.some.inj hc))), H⟩
      · show Sx.StepAt _ _ _ _ _ _ _ 9
        intro L A w up hun hd F H
        have F := Sx.Fr.to F (kv' := [(6, .pointer (some ⟨g5, 0, none⟩)), (35, .int .i64 1)]) ⟨rfl, rfl, trivial⟩
        refine Sx.step_on rfl (Sx.d_iaddr (v := .pointer (some ⟨g5, 1, none⟩)) F rfl rfl rfl (by kernel_rfl)) ?_
        rintro xv w' ⟨hx, rfl⟩
        exact ⟨(fun cv hc => hx.trans (Option.some.inj (Option.some.inj hc))), H⟩
      · show Sx.StepAt _ _ _ _ _ _ _ 10
        intro L A w up hun hd F H
        have F := Sx.Fr.to F (kv' := [(36, .pointer (some ⟨g5, 1, none⟩))]) ⟨rfl, trivial⟩
        refine Sx.step_on rfl (Sx.d_load1 (i := 1) (v := .int .u64 ((Wd.lo db / 4294967296#64).toNat)) one_22 F H rfl rfl rfl rfl) ?_
        rintro xv w' ⟨hx, rfl⟩
        exact ⟨(fun cv hc => hx.trans (Option.some.inj (Option.some.inj hc))), H⟩
      · show Sx.StepAt _ _ _ _ _ _ _ 11
        intro L A w up hun hd F H
        have F := Sx.Fr.to F (kv' := [(34, .int .u64 ((Wd.lo da % 4294967296#64).toNat)), (37, .int .u64 ((Wd.lo db / 4294967296#64).toNat))]) ⟨rfl, rfl, trivial⟩
        refine Sx.step_on rfl (Sx.d_bin (v := .int .u64 (((Wd.lo da % 4294967296#64) * (Wd.lo db / 4294967296#64)).toNat)) F rfl rfl rfl (Sx.i_mul64 (Wd.lo da % 4294967296#64) (Wd.lo db / 4294967296#64))) ?_
        rintro xv w' ⟨hx, rfl⟩
        exact ⟨(fun cv hc => hx.trans (Option.some.inj (Option.some.inj hc))), H⟩
      · show Sx.StepAt _ _ _ _ _ _ _ 12
        intro L A w up hun hd F H
        have F := Sx.Fr.to F (kv' := [(31, .int .u64 0), (38, .int .u64 (((Wd.lo da % 4294967296#64) * (Wd.lo db / 4294967296#64)).toNat))]) ⟨rfl, rfl, trivial⟩
        refine Sx.step_on rfl (Sx.d_bin (v := .int .u64 ((0#64 + ((Wd.lo da % 4294967296#64) * (Wd.lo db / 4294967296#64))).toNat)) F rfl rfl rfl (Sx.i_add64 0#64 ((Wd.lo da % 4294967296#64) * (Wd.lo db / 4294967296#64)))) ?_
        rintro xv w' ⟨hx, rfl⟩
        exact ⟨(fun cv hc => hx.trans (Option.some.inj (Option.some.inj hc))), H⟩
      · show Sx.StepAt _ _ _ _ _ _ _ 13
        intro L A w up hun hd F H
        have F := Sx.Fr.to F (kv' := [(9, .int .u64 ((n00 / 4294967296#64).toNat))]) ⟨rfl, trivial⟩
        refine Sx.step_on rfl (Sx.d_move F (Or.inl rfl) rfl) ?_
        rintro xv w' ⟨hx, rfl⟩
        exact ⟨(fun cv hc => hx.trans (Option.some.inj (Option.some.inj hc))), H⟩
      · show Sx.StepAt _ _ _ _ _ _ _ 14
        intro L A w up hun hd F H
        have F := Sx.Fr.to F (kv' := [(39, .int .u64 ((0#64 + ((Wd.lo da % 4294967296#64) * (Wd.lo db / 4294967296#64))).toNat)), (40, .int .u64 ((n00 / 4294967296#64).toNat))]) ⟨rfl, rfl, trivial⟩
        refine Sx.step_on rfl (Sx.d_bin (v := .int .u64 (((0#64 + ((Wd.lo da % 4294967296#64) * (Wd.lo db / 4294967296#64))) + (n00 / 4294967296#64)).toNat)) F rfl rfl rfl (Sx.i_add64 (0#64 + ((Wd.lo da % 4294967296#64) * (Wd.lo db / 4294967296#64))) (n00 / 4294967296#64))) ?_
        rintro xv w' ⟨hx, rfl⟩
        exact ⟨(fun cv hc => hx.trans (Option.some.inj (Option.some.inj hc))), H⟩
      · show Sx.StepAt _ _ _ _ _ _ _ 15
        intro L A w up hun hd F H
        have F := Sx.Fr.to F (kv' := [(41, .int .u64 (((0#64 + ((Wd.lo da % 4294967296#64) * (Wd.lo db / 4294967296#64))) + (n00 / 4294967296#64)).toNat))]) ⟨rfl, trivial⟩
        refine Sx.step_on rfl (Sx.d_move F (Or.inr rfl) rfl) ?_
        rintro xv w' ⟨hx, rfl⟩
        exact ⟨(fun cv hc => hx.trans (Option.some.inj (Option.some.inj hc))), H⟩
    · intro L A w hL F H
      have F := Sx.Fr.to F (kv' := [(0, .agg #[.int .u64 ((Wd.hi da).toNat), .int .u64 ((Wd.lo da).toNat)]), (1, .agg #[.int .u64 ((Wd.hi db).toNat), .int .u64 ((Wd.lo db).toNat)]), (2, .pointer (some ⟨g1, 0, none⟩)), (3, .pointer (some ⟨g2, 0, none⟩)), (4, .pointer (some ⟨g3, 0, none⟩)), (12, .agg #[.int .u64 ((Wd.hi da).toNat), .int .u64 ((Wd.lo da).toNat)]), (13, .agg #[.int .u64 ((Wd.lo da % 4294967296#64).toNat), .int .u64 ((Wd.lo da / 4294967296#64).toNat), .int .u64 ((Wd.hi da % 4294967296#64).toNat), .int .u64 ((Wd.hi da / 4294967296#64).toNat)]), (5, .pointer (some ⟨g4, 0, none⟩)), (14, .agg #[.int .u64 ((Wd.hi db).toNat), .int .u64 ((Wd.lo db).toNat)]), (15, .agg #[.int .u64 ((Wd.lo db % 4294967296#64).toNat), .int .u64 ((Wd.lo db / 4294967296#64).toNat), .int .u64 ((Wd.hi db % 4294967296#64).toNat), .int .u64 ((Wd.hi db / 4294967296#64).toNat)]), (6, .pointer (some ⟨g5, 0, none⟩)), (16, .agg #[.int .u64 0, .int .u64 0, .int .u64 0, .int .u64 0]), (7, .pointer (some ⟨g6, 0, none⟩)), (8, .int .i64 0), (17, .int .i64 0), (18, .bool true), (9, .int .u64 ((n00 / 4294967296#64).toNat)), (10, .int .i64 1), (21, .int .i64 0), (22, .int .i64 1), (23, .int .i64 1), (24, .bool true), (42, .int .i64 0), (43, .int .i64 0), (44, .int .i64 0), (45, .int .u64 n00.toNat), (46, .int .u64 ((n00 % 4294967296#64).toNat)), (47, .pointer (some ⟨g6, 0, none⟩)), (48, .int .u64 n00.toNat), (49, .int .u64 ((n00 / 4294967296#64).toNat)), (25, .int .i64 0), (26, .int .i64 1), (11, .int .u64 (((0#64 + ((Wd.lo da % 4294967296#64) * (Wd.lo db / 4294967296#64))) + (n00 / 4294967296#64)).toNat))]) ⟨rfl, rfl, rfl, rfl, rfl, rfl, rfl, rfl, rfl, rfl, rfl, rfl, rfl, rfl, rfl, rfl, rfl, rfl, rfl, rfl, rfl, rfl, rfl, rfl, rfl, rfl, rfl, rfl, rfl, rfl, rfl, rfl, rfl, trivial⟩
      obtain ⟨n01, hn01⟩ : ∃ q, ((0#64 + ((Wd.lo da % 4294967296#64) * (Wd.lo db / 4294967296#64))) + (n00 / 4294967296#64)) = q := ⟨_, rfl⟩
      rw [hn01] at F
      refine hK20 _ _ ?_
      refine Sx.seq (fun K21 hK21 => ?_)
      refine Sx.plain ?_
      refine Sx.sv F (Sx.d_move F (Or.inl rfl) rfl) (Sx.wanted_none rfl _) rfl (by decide) (fun A F => ?_)
      refine Sx.sv F (Sx.d_move F (Or.inl rfl) rfl) (Sx.wanted_none rfl _) rfl (by decide) (fun A F => ?_)
      refine Sx.sv F (Sx.d_bin (v := .int .i64 1) F rfl rfl rfl (Sx.i_addS (by decide))) (Sx.wanted_none rfl _) rfl (by decide) (fun A F => ?_)
      refine Sx.sv F (Sx.d_move F (Or.inl rfl) rfl) (Sx.wanted_none rfl _) rfl (by decide) (fun A F => ?_)
      refine Sx.sv F (Sx.d_bin (v := .int .u64 ((n01 % 4294967296#64).toNat)) F rfl rfl rfl (Sx.i_rem64 n01 4294967296#64 (by decide))) (Sx.wanted_none rfl _) rfl (by decide) (fun A F => ?_)
      refine Sx.sv F (Sx.d_iaddr (v := .pointer (some ⟨g6, 1, none⟩)) F rfl rfl rfl (by kernel_rfl)) (Sx.wanted_none rfl _) rfl (by decide) (fun A F => ?_)
      refine Sx.ss F (Sx.d_store (i := 0) (xs := [.int .u64 ((n01 % 4294967296#64).toNat)]) (us := [.int .u64 ((n00 % 4294967296#64).toNat), .int .u64 ((n01 % 4294967296#64).toNat), .int .u64 0, .int .u64 0]) sz_22 F H rfl rfl rfl rfl rfl rfl rfl (Nat.le_of_ble_eq_true rfl) rfl) (Sx.wanted_none rfl _) rfl (fun A w F (H : Sx.Own w0 _ [(true, g6, [.int .u64 ((n00 % 4294967296#64).toNat), .int .u64 ((n01 % 4294967296#64).toNat), .int .u64 0, .int .u64 0]), (true, g5, [.int .u64 ((Wd.lo db % 4294967296#64).toNat), .int .u64 ((Wd.lo db / 4294967296#64).toNat), .int .u64 ((Wd.hi db % 4294967296#64).toNat), .int .u64 ((Wd.hi db / 4294967296#64).toNat)]), (true, g4, [.int .u64 ((Wd.lo da % 4294967296#64).toNat), .int .u64 ((Wd.lo da / 4294967296#64).toNat), .int .u64 ((Wd.hi da % 4294967296#64).toNat), .int .u64 ((Wd.hi da / 4294967296#64).toNat)]), (true, g3, [.int .u64 ((Wd.hi 0#128).toNat), .int .u64 ((Wd.lo 0#128).toNat)]), (true, g2, [.int .u64 ((Wd.hi db).toNat), .int .u64 ((Wd.lo db).toNat)]), (true, g1, [.int .u64 ((Wd.hi da).toNat), .int .u64 ((Wd.lo da).toNat)])] []) => ?_)
      refine Sx.nil ?_
      refine hK21 _ _ ?_
      refine Sx.plain ?_
      refine Sx.sv F (Sx.d_move F (Or.inl rfl) rfl) (Sx.wanted_none rfl _) rfl (by decide) (fun A F => ?_)
      refine Sx.sv F (Sx.d_bin (v := .int .u64 ((n01 / 4294967296#64).toNat)) F rfl rfl rfl (Sx.i_quo64 n01 4294967296#64 (by decide))) (Sx.wanted_none rfl _) rfl (by decide) (fun A F => ?_)
      refine Sx.sv F (Sx.d_move F (Or.inr rfl) rfl) (Sx.wanted_none rfl _) rfl (by decide) (fun A F => ?_)
      refine Sx.nil ?_
      refine hK19 _ _ ?_
      refine Sx.plain ?_
      refine Sx.sv F (Sx.d_move F (Or.inl rfl) rfl) (Sx.wanted_none rfl _) rfl (by decide) (fun A F => ?_)
      refine Sx.sv F (Sx.d_bin (v := .int .i64 2) F rfl rfl rfl (Sx.i_addS (by decide))) (Sx.wanted_none rfl _) rfl (by decide) (fun A F => ?_)
      refine Sx.sv F (Sx.d_move F (Or.inr rfl) rfl) (Sx.wanted_none rfl _) rfl (by decide) (fun A F => ?_)
      refine Sx.nil ?_
      try dsimp only [Exit.then]
      rw [rounds_succ]
      refine Sx.seq (fun K22 hK22 => ?_)
      refine Sx.seq (fun K23 hK23 => ?_)
      refine Sx.plain ?_
      refine Sx.sv F (Sx.d_move F (Or.inl rfl) rfl) (Sx.wanted_none rfl _) rfl (by decide) (fun A F => ?_)
      refine Sx.sv F (Sx.d_move F (Or.inl rfl) rfl) (Sx.wanted_none rfl _) rfl (by decide) (fun A F => ?_)
      refine Sx.sv F (Sx.d_bin (v := .int .i64 2) F rfl rfl rfl (Sx.i_addS (by decide))) (Sx.wanted_none rfl _) rfl (by decide) (fun A F => ?_)
      refine Sx.sv F (Sx.d_bin (v := .bool true) F rfl rfl rfl (Sx.i_lt (by decide))) (Sx.wanted_none rfl _) rfl (by decide) (fun A F => ?_)
      refine Sx.nil ?_
      refine hK23 _ _ ?_
      refine Sx.condT F rfl ?_
      refine wp_skip ?_
      refine hK22 _ _ ?_
      refine Sx.seq (fun K24 hK24 => ?_)
      refine wp_block ?_
      refine Sx.seq (fun K25 hK25 => ?_)
      have F := Sx.Fr.to F (kv' := [(0, .agg #[.int .u64 ((Wd.hi da).toNat), .int .u64 ((Wd.lo da).toNat)]), (1, .agg #[.int .u64 ((Wd.hi db).toNat), .int .u64 ((Wd.lo db).toNat)]), (2, .pointer (some ⟨g1, 0, none⟩)), (3, .pointer (some ⟨g2, 0, none⟩)), (4, .pointer (some ⟨g3, 0, none⟩)), (12, .agg #[.int .u64 ((Wd.hi da).toNat), .int .u64 ((Wd.lo da).toNat)]), (13, .agg #[.int .u64 ((Wd.lo da % 4294967296#64).toNat), .int .u64 ((Wd.lo da / 4294967296#64).toNat), .int .u64 ((Wd.hi da % 4294967296#64).toNat), .int .u64 ((Wd.hi da / 4294967296#64).toNat)]), (5, .pointer (some ⟨g4, 0, none⟩)), (14, .agg #[.int .u64 ((Wd.hi db).toNat), .int .u64 ((Wd.lo db).toNat)]), (15, .agg #[.int .u64 ((Wd.lo db % 4294967296#64).toNat), .int .u64 ((Wd.lo db / 4294967296#64).toNat), .int .u64 ((Wd.hi db % 4294967296#64).toNat), .int .u64 ((Wd.hi db / 4294967296#64).toNat)]), (6, .pointer (some ⟨g5, 0, none⟩)), (16, .agg #[.int .u64 0, .int .u64 0, .int .u64 0, .int .u64 0]), (7, .pointer (some ⟨g6, 0, none⟩)), (8, .int .i64 0), (17, .int .i64 0), (18, .bool true), (9, .int .u64 ((n01 / 4294967296#64).toNat)), (10, .int .i64 2), (21, .int .i64 0), (22, .int .i64 2), (23, .int .i64 2), (24, .bool true), (42, .int .i64 0), (43, .int .i64 1), (44, .int .i64 1), (45, .int .u64 n01.toNat), (46, .int .u64 ((n01 % 4294967296#64).toNat)), (47, .pointer (some ⟨g6, 1, none⟩)), (48, .int .u64 n01.toNat), (49, .int .u64 ((n01 / 4294967296#64).toNat)), (25, .int .i64 1), (26, .int .i64 2)]) ⟨rfl, rfl, rfl, rfl, rfl, rfl, rfl, rfl, rfl, rfl, rfl, rfl, rfl, rfl, rfl, rfl, rfl, rfl, rfl, rfl, rfl, rfl, rfl, rfl, rfl, rfl, rfl, rfl, rfl, rfl, rfl, rfl, trivial⟩
      refine Sx.drawn F (by kernel_rfl) (by kernel_rfl) (by kernel_rfl) [some (.int .i64 0), some (.int .i64 2), some (.int .i64 2), some (.pointer (some ⟨g6, 2, none⟩)), some (.int .u64 0), some (.int .i64 0), some (.pointer (some ⟨g4, 0, none⟩)), some (.int .u64 ((Wd.lo da % 4294967296#64).toNat)), some (.int .i64 2), some (.pointer (some ⟨g5, 2, none⟩)), some (.int .u64 ((Wd.hi db % 4294967296#64).toNat)), some (.int .u64 (((Wd.lo da % 4294967296#64) * (Wd.hi db % 4294967296#64)).toNat)), some (.int .u64 ((0#64 + ((Wd.lo da % 4294967296#64) * (Wd.hi db % 4294967296#64))).toNat)), some (.int .u64 ((n01 / 4294967296#64).toNat)), some (.int .u64 (((0#64 + ((Wd.lo da % 4294967296#64) * (Wd.hi db % 4294967296#64))) + (n01 / 4294967296#64)).toNat)), some (.int .u64 (((0#64 + ((Wd.lo da % 4294967296#64) * (Wd.hi db % 4294967296#64))) + (n01 / 4294967296#64)).toNat))] (fun L A w => Sx.Own w0 w [(true, g6, [.int .u64 ((n00 % 4294967296#64).toNat), .int .u64 ((n01 % 4294967296#64).toNat), .int .u64 0, .int .u64 0]), (true, g5, [.int .u64 ((Wd.lo db % 4294967296#64).toNat), .int .u64 ((Wd.lo db / 4294967296#64).toNat), .int .u64 ((Wd.hi db % 4294967296#64).toNat), .int .u64 ((Wd.hi db / 4294967296#64).toNat)]), (true, g4, [.int .u64 ((Wd.lo da % 4294967296#64).toNat), .int .u64 ((Wd.lo da / 4294967296#64).toNat), .int .u64 ((Wd.hi da % 4294967296#64).toNat), .int .u64 ((Wd.hi da / 4294967296#64).toNat)]), (true, g3, [.int .u64 ((Wd.hi 0#128).toNat), .int .u64 ((Wd.lo 0#128).toNat)]), (true, g2, [.int .u64 ((Wd.hi db).toNat), .int .u64 ((Wd.lo db).toNat)]), (true, g1, [.int .u64 ((Wd.hi da).toNat), .int .u64 ((Wd.lo da).toNat)])] []) H.drew ?_ ?_
      · refine ⟨?_, ?_, ?_, ?_, ?_, ?_, ?_, ?_, ?_, ?_, ?_, ?_, ?_, ?_, ?_, ?_, trivial⟩
        · show Sx.StepAt _ _ _ _ _ _ _ 0
          intro L A w up hun hd F H
          have F := Sx.Fr.to F (kv' := [(8, .int .i64 0)]) ⟨rfl, trivial⟩
          refine Sx.step_on rfl (Sx.d_move F (Or.inl rfl) rfl) ?_
          rintro xv w' ⟨hx, rfl⟩
          exact ⟨(fun cv hc => hx.trans (Option.some.inj (Option.some.inj hc))), H⟩
        · show Sx.StepAt _ _ _ _ _ _ _ 1
          intro L A w up hun hd F H
          have F := Sx.Fr.to F (kv' := [(10, .int .i64 2)]) ⟨rfl, trivial⟩
          refine Sx.step_on rfl (Sx.d_move F (Or.inl rfl) rfl) ?_
          rintro xv w' ⟨hx, rfl⟩
          exact ⟨(fun cv hc => hx.trans (Option.some.inj (Option.some.inj hc))), H⟩
        · show Sx.StepAt _ _ _ _ _ _ _ 2
          intro L A w up hun hd F H
          have F := Sx.Fr.to F (kv' := [(27, .int .i64 0), (28, .int .i64 2)]) ⟨rfl, rfl, trivial⟩
          refine Sx.step_on rfl (Sx.d_bin (v := .int .i64 2) F rfl rfl rfl (Sx.i_addS (by decide))) ?_
          rintro xv w' ⟨hx, rfl⟩
          exact ⟨(fun cv hc => hx.trans (Option.some.inj (Option.some.inj hc))), H⟩
        · show Sx.StepAt _ _ _ _ _ _ _ 3
          intro L A w up hun hd F H
          have F := Sx.Fr.to F (kv' := [(7, .pointer (some ⟨g6, 0, none⟩)), (29, .int .i64 2)]) ⟨rfl, rfl, trivial⟩
          refine Sx.step_on rfl (Sx.d_iaddr (v := .pointer (some ⟨g6, 2, none⟩)) F rfl rfl rfl (by kernel_rfl)) ?_
          rintro xv w' ⟨hx, rfl⟩
          exact ⟨(fun cv hc => hx.trans (Option.some.inj (Option.some.inj hc))), H⟩
        · show Sx.StepAt _ _ _ _ _ _ _ 4
          intro L A w up hun hd F H
          have F := Sx.Fr.to F (kv' := [(30, .pointer (some ⟨g6, 2, none⟩))]) ⟨rfl, trivial⟩
          refine Sx.step_on rfl (Sx.d_load1 (i := 0) (v := .int .u64 0) one_22 F H rfl rfl rfl rfl) ?_
          rintro xv w' ⟨hx, rfl⟩
          exact ⟨(fun cv hc => hx.trans (Option.some.inj (Option.some.inj hc))), H⟩
        · show Sx.StepAt _ _ _ _ _ _ _ 5
          intro L A w up hun hd F H
          have F := Sx.Fr.to F (kv' := [(8, .int .i64 0)]) ⟨rfl, trivial⟩
          refine Sx.step_on rfl (Sx.d_move F (Or.inl rfl) rfl) ?_
          rintro xv w' ⟨hx, rfl⟩
          exact ⟨(fun cv hc => hx.trans (Option.some.inj (Option.some.inj hc))), H⟩
        · show Sx.StepAt _ _ _ _ _ _ _ 6
          intro L A w up hun hd F H
          have F := Sx.Fr.to F (kv' := [(5, .pointer (some ⟨g4, 0, none⟩)), (32, .int .i64 0)]) ⟨rfl, rfl, trivial⟩
          refine Sx.step_on rfl (Sx.d_iaddr (v := .pointer (some ⟨g4, 0, none⟩)) F rfl rfl rfl (by kernel_rfl)) ?_
          rintro xv w' ⟨hx, rfl⟩
          exact ⟨(fun cv hc => hx.trans (Option.some.inj (Option.some.inj hc))), H⟩
        · show Sx.StepAt _ _ _ _ _ _ _ 7
          intro L A w up hun hd F H
          have F := Sx.Fr.to F (kv' := [(33, .pointer (some ⟨g4, 0, none⟩))]) ⟨rfl, trivial⟩
          refine Sx.step_on rfl (Sx.d_load1 (i := 2) (v := .int .u64 ((Wd.lo da % 4294967296#64).toNat)) one_22 F H rfl rfl rfl rfl) ?_
          rintro xv w' ⟨hx, rfl⟩
          exact ⟨(fun cv hc => hx.trans (Option.some.inj (Option.some.inj hc))), H⟩
        · show Sx.StepAt _ _ _ _ _ _ _ 8
          intro L A w up hun hd F H
          have F := Sx.Fr.to F (kv' := [(10, .int .i64 2)]) ⟨rfl, trivial⟩
          refine Sx.step_on rfl (Sx.d_move F (Or.inl rfl) rfl) ?_
          rintro xv w' ⟨hx, rfl⟩
          exact ⟨(fun cv hc => hx.trans (Option.some.inj (Option.some.inj hc))), H⟩
        · show Sx.StepAt _ _ _ _ _ _ _ 9
          intro L A w up hun hd F H
          have F := Sx.Fr.to F (kv' := [(6, .pointer (some ⟨g5, 0, none⟩)), (35, .int .i64 2)]) ⟨rfl, rfl, trivial⟩
          refine Sx.step_on rfl (Sx.d_iaddr (v := .pointer (some ⟨g5, 2, none⟩)) F rfl rfl rfl (by kernel_rfl)) ?_
          rintro xv w' ⟨hx, rfl⟩
          exact ⟨(fun cv hc => hx.trans (Option.some.inj (Option.some.inj hc))), H⟩
        · show Sx.StepAt _ _ _ _ _ _ _ 10
          intro L A w up hun hd F H
          have F := Sx.Fr.to F (kv' := [(36, .pointer (some ⟨g5, 2, none⟩))]) ⟨rfl, trivial⟩
          refine Sx.step_on rfl (Sx.d_load1 (i := 1) (v := .int .u64 ((Wd.hi db % 4294967296#64).toNat)) one_22 F H rfl rfl rfl rfl) ?_
          rintro xv w' ⟨hx, rfl⟩
          exact ⟨(fun cv hc => hx.trans (Option.some.inj (Option.some.inj hc))), H⟩
        · show Sx.StepAt _ _ _ _ _ _ _ 11
          intro L A w up hun hd F H
          have F := Sx.Fr.to F (kv' := [(34, .int .u64 ((Wd.lo da % 4294967296#64).toNat)), (37, .int .u64 ((Wd.hi db % 4294967296#64).toNat))]) ⟨rfl, rfl, trivial⟩
          refine Sx.step_on rfl (Sx.d_bin (v := .int .u64 (((Wd.lo da % 4294967296#64) * (Wd.hi db % 4294967296#64)).toNat)) F rfl rfl rfl (Sx.i_mul64 (Wd.lo da % 4294967296#64) (Wd.hi db % 4294967296#64))) ?_
          rintro xv w' ⟨hx, rfl⟩
          exact ⟨(fun cv hc => hx.trans (Option.some.inj (Option.some.inj hc))), H⟩
        · show Sx.StepAt _ _ _ _ _ _ _ 12
          intro L A w up hun hd F H
          have F := Sx.Fr.to F (kv' := [(31, .int .u64 0), (38, .int .u64 (((Wd.lo da % 4294967296#64) * (Wd.hi db % 4294967296#64)).toNat))]) ⟨rfl, rfl, trivial⟩
          refine Sx.step_on rfl (Sx.d_bin (v := .int .u64 ((0#64 + ((Wd.lo da % 4294967296#64) * (Wd.hi db % 4294967296#64))).toNat)) F rfl rfl rfl (Sx.i_add64 0#64 ((Wd.lo da % 4294967296#64) * (Wd.hi db % 4294967296#64)))) ?_
          rintro xv w' ⟨hx, rfl⟩
          exact ⟨(fun cv hc => hx.trans (Option.some.inj (Option.some.inj hc))), H⟩
        · show Sx.StepAt _ _ _ _ _ _ _ 13
          intro L A w up hun hd F H
          have F := Sx.Fr.to F (kv' := [(9, .int .u64 ((n01 / 4294967296#64).toNat))]) ⟨rfl, trivial⟩
          refine Sx.step_on rfl (Sx.d_move F (Or.inl rfl) rfl) ?_
          rintro xv w' ⟨hx, rfl⟩
          exact ⟨(fun cv hc => hx.trans (Option.some.inj (Option.some.inj hc))), H⟩
        · show Sx.StepAt _ _ _ _ _ _ _ 14
          intro L A w up hun hd F H
          have F := Sx.Fr.to F (kv' := [(39, .int .u64 ((0#64 + ((Wd.lo da % 4294967296#64) * (Wd.hi db % 4294967296#64))).toNat)), (40, .int .u64 ((n01 / 4294967296#64).toNat))]) ⟨rfl, rfl, trivial⟩
          refine Sx.step_on rfl (Sx.d_bin (v := .int .u64 (((0#64 + ((Wd.lo da % 4294967296#64) * (Wd.hi db % 4294967296#64))) + (n01 / 4294967296#64)).toNat)) F rfl rfl rfl (Sx.i_add64 (0#64 + ((Wd.lo da % 4294967296#64) * (Wd.hi db % 4294967296#64))) (n01 / 4294967296#64))) ?_
          rintro xv w' ⟨hx, rfl⟩
          exact ⟨(fun cv hc => hx.trans (Option.some.inj (Option.some.inj hc))), H⟩
        · show Sx.StepAt _ _ _ _ _ _ _ 15
          intro L A w up hun hd F H
          have F := Sx.Fr.to F (kv' := [(41, .int .u64 (((0#64 + ((Wd.lo da % 4294967296#64) * (Wd.hi db % 4294967296#64))) + (n01 / 4294967296#64)).toNat))]) ⟨rfl, trivial⟩
          refine Sx.step_on rfl (Sx.d_move F (Or.inr rfl) rfl) ?_
          rintro xv w' ⟨hx, rfl⟩
          exact ⟨(fun cv hc => hx.trans (Option.some.inj (Option.some.inj hc))), H⟩
      · intro L A w hL F H
        have F := Sx.Fr.to F (kv' := [(0, .agg #[.int .u64 ((Wd.hi da).toNat), .int .u64 ((Wd.lo da).toNat)]), (1, .agg #[.int .u64 ((Wd.hi db).toNat), .int .u64 ((Wd.lo db).toNat)]), (2, .pointer (some ⟨g1, 0, none⟩)), (3, .pointer (some ⟨g2, 0, none⟩)), (4, .pointer (some ⟨g3, 0, none⟩)), (12, .agg #[.int .u64 ((Wd.hi da).toNat), .int .u64 ((Wd.lo da).toNat)]), (13, .agg #[.int .u64 ((Wd.lo da % 4294967296#64).toNat), .int .u64 ((Wd.lo da / 4294967296#64).toNat), .int .u64 ((Wd.hi da % 4294967296#64).toNat), .int .u64 ((Wd.hi da / 4294967296#64).toNat)]), (5, .pointer (some ⟨g4, 0, none⟩)), (14, .agg #[.int .u64 ((Wd.hi db).toNat), .int .u64 ((Wd.lo db).toNat)]), (15, .agg #[.int .u64 ((Wd.lo db % 4294967296#64).toNat), .int .u64 ((Wd.lo db / 4294967296#64).toNat), .int .u64 ((Wd.hi db % 4294967296#64).toNat), .int .u64 ((Wd.hi db / 4294967296#64).toNat)]), (6, .pointer (some ⟨g5, 0, none⟩)), (16, .agg #[.int .u64 0, .int .u64 0, .int .u64 0, .int .u64 0]), (7, .pointer (some ⟨g6, 0, none⟩)), (8, .int .i64 0), (17, .int .i64 0), (18, .bool true), (9, .int .u64 ((n01 / 4294967296#64).toNat)), (10, .int .i64 2), (21, .int .i64 0), (22, .int .i64 2), (23, .int .i64 2), (24, .bool true), (42, .int .i64 0), (43, .int .i64 1), (44, .int .i64 1), (45, .int .u64 n01.toNat), (46, .int .u64 ((n01 % 4294967296#64).toNat)), (47, .pointer (some ⟨g6, 1, none⟩)), (48, .int .u64 n01.toNat), (49, .int .u64 ((n01 / 4294967296#64).toNat)), (25, .int .i64 1), (26, .int .i64 2), (11, .int .u64 (((0#64 + ((Wd.lo da % 4294967296#64) * (Wd.hi db % 4294967296#64))) + (n01 / 4294967296#64)).toNat))]) ⟨rfl, rfl, rfl, rfl, rfl, rfl, rfl, rfl, rfl, rfl, rfl, rfl, rfl, rfl, rfl, rfl, rfl, rfl, rfl, rfl, rfl, rfl, rfl, rfl, rfl, rfl, rfl, rfl, rfl, rfl, rfl, rfl, rfl, trivial⟩
        obtain ⟨n02, hn02⟩ : ∃ q, ((0#64 + ((Wd.lo da % 4294967296#64) * (Wd.hi db % 4294967296#64))) + (n01 / 4294967296#64)) = q := ⟨_, rfl⟩
        rw [hn02] at F
        refine hK25 _ _ ?_
        refine Sx.seq (fun K26 hK26 => ?_)
        refine Sx.plain ?_
        refine Sx.sv F (Sx.d_move F (Or.inl rfl) rfl) (Sx.wanted_none rfl _) rfl (by decide) (fun A F => ?_)
        refine Sx.sv F (Sx.d_move F (Or.inl rfl) rfl) (Sx.wanted_none rfl _) rfl (by decide) (fun A F => ?_)
        refine Sx.sv F (Sx.d_bin (v := .int .i64 2) F rfl rfl rfl (Sx.i_addS (by decide))) (Sx.wanted_none rfl _) rfl (by decide) (fun A F => ?_)
        refine Sx.sv F (Sx.d_move F (Or.inl rfl) rfl) (Sx.wanted_none rfl _) rfl (by decide) (fun A F => ?_)
        refine Sx.sv F (Sx.d_bin (v := .int .u64 ((n02 % 4294967296#64).toNat)) F rfl rfl rfl (Sx.i_rem64 n02 4294967296#64 (by decide))) (Sx.wanted_none rfl _) rfl (by decide) (fun A F => ?_)
        refine Sx.sv F (Sx.d_iaddr (v := .pointer (some ⟨g6, 2, none⟩)) F rfl rfl rfl (by kernel_rfl)) (Sx.wanted_none rfl _) rfl (by decide) (fun A F => ?_)
        refine Sx.ss F (Sx.d_store (i := 0) (xs := [.int .u64 ((n02 % 4294967296#64).toNat)]) (us := [.int .u64 ((n00 % 4294967296#64).toNat), .int .u64 ((n01 % 4294967296#64).toNat), .int .u64 ((n02 % 4294967296#64).toNat), .int .u64 0]) sz_22 F H rfl rfl rfl rfl rfl rfl rfl (Nat.le_of_ble_eq_true rfl) rfl) (Sx.wanted_none rfl _) rfl (fun A w F (H : Sx.Own w0 _ [(true, g6, [.int .u64 ((n00 % 4294967296#64).toNat), .int .u64 ((n01 % 4294967296#64).toNat), .int .u64 ((n02 % 4294967296#64).toNat), .int .u64 0]), (true, g5, [.int .u64 ((Wd.lo db % 4294967296#64).toNat), .int .u64 ((Wd.lo db / 4294967296#64).toNat), .int .u64 ((Wd.hi db % 4294967296#64).toNat), .int .u64 ((Wd.hi db / 4294967296#64).toNat)]), (true, g4, [.int .u64 ((Wd.lo da % 4294967296#64).toNat), .int .u64 ((Wd.lo da / 4294967296#64).toNat), .int .u64 ((Wd.hi da % 4294967296#64).toNat), .int .u64 ((Wd.hi da / 4294967296#64).toNat)]), (true, g3, [.int .u64 ((Wd.hi 0#128).toNat), .int .u64 ((Wd.lo 0#128).toNat)]), (true, g2, [.int .u64 ((Wd.hi db).toNat), .int .u64 ((Wd.lo db).toNat)]), (true, g1, [.int .u64 ((Wd.hi da).toNat), .int .u64 ((Wd.lo da).toNat)])] []) => ?_)
        refine Sx.nil ?_
        refine hK26 _ _ ?_
        refine Sx.plain ?_
        refine Sx.sv F (Sx.d_move F (Or.inl rfl) rfl) (Sx.wanted_none rfl _) rfl (by decide) (fun A F => ?_)
        refine Sx.sv F (Sx.d_bin (v := .int .u64 ((n02 / 4294967296#64).toNat)) F rfl rfl rfl (Sx.i_quo64 n02 4294967296#64 (by decide))) (Sx.wanted_none rfl _) rfl (by decide) (fun A F => ?_)
        refine Sx.sv F (Sx.d_move F (Or.inr rfl) rfl) (Sx.wanted_none rfl _) rfl (by decide) (fun A F => ?_)
        refine Sx.nil ?_
        refine hK24 _ _ ?_
        refine Sx.plain ?_
        refine Sx.sv F (Sx.d_move F (Or.inl rfl) rfl) (Sx.wanted_none rfl _) rfl (by decide) (fun A F => ?_)
        refine Sx.sv F (Sx.d_bin (v := .int .i64 3) F rfl rfl rfl (Sx.i_addS (by decide))) (Sx.wanted_none rfl _) rfl (by decide) (fun A F => ?_)
        refine Sx.sv F (Sx.d_move F (Or.inr rfl) rfl) (Sx.wanted_none rfl _) rfl (by decide) (fun A F => ?_)
        refine Sx.nil ?_
        try dsimp only [Exit.then]
        rw [rounds_succ]
        refine Sx.seq (fun K27 hK27 => ?_)
        refine Sx.seq (fun K28 hK28 => ?_)
        refine Sx.plain ?_
        refine Sx.sv F (Sx.d_move F (Or.inl rfl) rfl) (Sx.wanted_none rfl _) rfl (by decide) (fun A F => ?_)
        refine Sx.sv F (Sx.d_move F (Or.inl rfl) rfl) (Sx.wanted_none rfl _) rfl (by decide) (fun A F => ?_)
        refine Sx.sv F (Sx.d_bin (v := .int .i64 3) F rfl rfl rfl (Sx.i_addS (by decide))) (Sx.wanted_none rfl _) rfl (by decide) (fun A F => ?_)
        refine Sx.sv F (Sx.d_bin (v := .bool true) F rfl rfl rfl (Sx.i_lt (by decide))) (Sx.wanted_none rfl _) rfl (by decide) (fun A F => ?_)
        refine Sx.nil ?_
        refine hK28 _ _ ?_
        refine Sx.condT F rfl ?_
        refine wp_skip ?_
        refine hK27 _ _ ?_
        refine Sx.seq (fun K29 hK29 => ?_)
        refine wp_block ?_
        refine Sx.seq (fun K30 hK30 => ?_)
        have F := Sx.Fr.to F (kv' := [(0, .agg #[.int .u64 ((Wd.hi da).toNat), .int .u64 ((Wd.lo da).toNat)]), (1, .agg #[.int .u64 ((Wd.hi db).toNat), .int .u64 ((Wd.lo db).toNat)]), (2, .pointer (some ⟨g1, 0, none⟩)), (3, .pointer (some ⟨g2, 0, none⟩)), (4, .pointer (some ⟨g3, 0, none⟩)), (12, .agg #[.int .u64 ((Wd.hi da).toNat), .int .u64 ((Wd.lo da).toNat)]), (13, .agg #[.int .u64 ((Wd.lo da % 4294967296#64).toNat), .int .u64 ((Wd.lo da / 4294967296#64).toNat), .int .u64 ((Wd.hi da % 4294967296#64).toNat), .int .u64 ((Wd.hi da / 4294967296#64).toNat)]), (5, .pointer (some ⟨g4, 0, none⟩)), (14, .agg #[.int .u64 ((Wd.hi db).toNat), .int .u64 ((Wd.lo db).toNat)]), (15, .agg #[.int .u64 ((Wd.lo db % 4294967296#64).toNat), .int .u64 ((Wd.lo db / 4294967296#64).toNat), .int .u64 ((Wd.hi db % 4294967296#64).toNat), .int .u64 ((Wd.hi db / 4294967296#64).toNat)]), (6, .pointer (some ⟨g5, 0, none⟩)), (16, .agg #[.int .u64 0, .int .u64 0, .int .u64 0, .int .u64 0]), (7, .pointer (some ⟨g6, 0, none⟩)), (8, .int .i64 0), (17, .int .i64 0), (18, .bool true), (9, .int .u64 ((n02 / 4294967296#64).toNat)), (10, .int .i64 3), (21, .int .i64 0), (22, .int .i64 3), (23, .int .i64 3), (24, .bool true), (42, .int .i64 0), (43, .int .i64 2), (44, .int .i64 2), (45, .int .u64 n02.toNat), (46, .int .u64 ((n02 % 4294967296#64).toNat)), (47, .pointer (some ⟨g6, 2, none⟩)), (48, .int .u64 n02.toNat), (49, .int .u64 ((n02 / 4294967296#64).toNat)), (25, .int .i64 2), (26, .int .i64 3)]) ⟨rfl, rfl, rfl, rfl, rfl, rfl, rfl, rfl, rfl, rfl, rfl, rfl, rfl, rfl, rfl, rfl, rfl, rfl, rfl, rfl, rfl, rfl, rfl, rfl, rfl, rfl, rfl, rfl, rfl, rfl, rfl, rfl, trivial⟩
        refine Sx.drawn F (by kernel_rfl) (by kernel_rfl) (by kernel_rfl) [some (.int .i64 0), some (.int .i64 3), some (.int .i64 3), some (.pointer (some ⟨g6, 3, none⟩)), some (.int .u64 0), some (.int .i64 0), some (.pointer (some ⟨g4, 0, none⟩)), some (.int .u64 ((Wd.lo da % 4294967296#64).toNat)), some (.int .i64 3), some (.pointer (some ⟨g5, 3, none⟩)), some (.int .u64 ((Wd.hi db / 4294967296#64).toNat)), some (.int .u64 (((Wd.lo da % 4294967296#64) * (Wd.hi db / 4294967296#64)).toNat)), some (.int .u64 ((0#64 + ((Wd.lo da % 4294967296#64) * (Wd.hi db / 4294967296#64))).toNat)), some (.int .u64 ((n02 / 4294967296#64).toNat)), some (.int .u64 (((0#64 + ((Wd.lo da % 4294967296#64) * (Wd.hi db / 4294967296#64))) + (n02 / 4294967296#64)).toNat)), some (.int .u64 (((0#64 + ((Wd.lo da % 4294967296#64) * (Wd.hi db / 4294967296#64))) + (n02 / 4294967296#64)).toNat))] (fun L A w => Sx.Own w0 w [(true, g6, [.int .u64 ((n00 % 4294967296#64).toNat), .int .u64 ((n01 % 4294967296#64).toNat), .int .u64 ((n02 % 4294967296#64).toNat), .int .u64 0]), (true, g5, [.int .u64 ((Wd.lo db % 4294967296#64).toNat), .int .u64 ((Wd.lo db / 4294967296#64).toNat), .int .u64 ((Wd.hi db % 4294967296#64).toNat), .int .u64 ((Wd.hi db / 4294967296#64).toNat)]), (true, g4, [.int .u64 ((Wd.lo da % 4294967296#64).toNat), .int .u64 ((Wd.lo da / 4294967296#64).toNat), .int .u64 ((Wd.hi da % 4294967296#64).toNat), .int .u64 ((Wd.hi da / 4294967296#64).toNat)]), (true, g3, [.int .u64 ((Wd.hi 0#128).toNat), .int .u64 ((Wd.lo 0#128).toNat)]), (true, g2, [.int .u64 ((Wd.hi db).toNat), .int .u64 ((Wd.lo db).toNat)]), (true, g1, [.int .u64 ((Wd.hi da).toNat), .int .u64 ((Wd.lo da).toNat)])] []) H.drew ?_ ?_
        · refine ⟨?_, ?_, ?_, ?_, ?_, ?_, ?_, ?_, ?_, ?_, ?_, ?_, ?_, ?_, ?_, ?_, trivial⟩
          · show Sx.StepAt _ _ _ _ _ _ _ 0
            intro L A w up hun hd F H
            have F := Sx.Fr.to F (kv' := [(8, .int .i64 0)]) ⟨rfl, trivial⟩
            refine Sx.step_on rfl (Sx.d_move F (Or.inl rfl) rfl) ?_
            rintro xv w' ⟨hx, rfl⟩
            exact ⟨(fun cv hc => hx.trans (Option.some.inj (Option.some.inj hc))), H⟩
          · show Sx.StepAt _ _ _ _ _ _ _ 1
            intro L A w up hun hd F H
            have F := Sx.Fr.to F (kv' := [(10, .int .i64 3)]) ⟨rfl, trivial⟩
            refine Sx.step_on rfl (Sx.d_move F (Or.inl rfl) rfl) ?_
            rintro xv w' ⟨hx, rfl⟩
            exact ⟨(fun cv hc => hx.trans (Option.some.inj (Option.some.inj hc))), H⟩
          · show Sx.StepAt _ _ _ _ _ _ _ 2
            intro L A w up hun hd F H
            have F := Sx.Fr.to F (kv' := [(27, .int .i64 0), (28, .int .i64 3)]) ⟨rfl, rfl, trivial⟩
            refine Sx.step_on rfl (Sx.d_bin (v := .int .i64 3) F rfl rfl rfl (Sx.i_addS (by decide))) ?_
            rintro xv w' ⟨hx, rfl⟩
            exact ⟨(fun cv hc => hx.trans (Option.some.inj (Option.some.inj hc))), H⟩
          · show Sx.StepAt _ _ _ _ _ _ _ 3
            intro L A w up hun hd F H
            have F := Sx.Fr.to F (kv' := [(7, .pointer (some ⟨g6, 0, none⟩)), (29, .int .i64 3)]) ⟨rfl, rfl, trivial⟩
            refine Sx.step_on rfl (Sx.d_iaddr (v := .pointer (some ⟨g6, 3, none⟩)) F rfl rfl rfl (by kernel_rfl)) ?_
            rintro xv w' ⟨hx, rfl⟩
            exact ⟨(fun cv hc => hx.trans (Option.some.inj (Option.some.inj hc))), H⟩
          · show Sx.StepAt _ _ _ _ _ _ _ 4
            intro L A w up hun hd F H
            have F := Sx.Fr.to F (kv' := [(30, .pointer (some ⟨g6, 3, none⟩))]) ⟨rfl, trivial⟩
            refine Sx.step_on rfl (Sx.d_load1 (i := 0) (v := .int .u64 0) one_22 F H rfl rfl rfl rfl) ?_
            rintro xv w' ⟨hx, rfl⟩
            exact ⟨(fun cv hc => hx.trans (Option.some.inj (Option.some.inj hc))), H⟩
          · show Sx.StepAt _ _ _ _ _ _ _ 5
            intro L A w up hun hd F H
            have F := Sx.Fr.to F (kv' := [(8, .int .i64 0)]) ⟨rfl, trivial⟩
            refine Sx.step_on rfl (Sx.d_move F (Or.inl rfl) rfl) ?_
            rintro xv w' ⟨hx, rfl⟩
            exact ⟨(fun cv hc => hx.trans (Option.some.inj (Option.some.inj hc))), H⟩
          · show Sx.StepAt _ _ _ _ _ _ _ 6
            intro L A w up hun hd F H
            have F := Sx.Fr.to F (kv' := [(5, .pointer (some ⟨g4, 0, none⟩)), (32, .int .i64 0)]) ⟨rfl, rfl, trivial⟩
            refine Sx.step_on rfl (Sx.d_iaddr (v := .pointer (some ⟨g4, 0, none⟩)) F rfl rfl rfl (by kernel_rfl)) ?_
            rintro xv w' ⟨hx, rfl⟩
            exact ⟨(fun cv hc => hx.trans (Option.some.inj (Option.some.inj hc))), H⟩
          · show Sx.StepAt _ _ _ _ _ _ _ 7
            intro L A w up hun hd F H
            have F := Sx.Fr.to F (kv' := [(33, .pointer (some ⟨g4, 0, none⟩))]) ⟨rfl, trivial⟩
            refine Sx.step_on rfl (Sx.d_load1 (i := 2) (v := .int .u64 ((Wd.lo da % 4294967296#64).toNat)) one_22 F H rfl rfl rfl rfl) ?_
            rintro xv w' ⟨hx, rfl⟩
            exact ⟨(fun cv hc => hx.trans (Option.some.inj (Option.some.inj hc))), H⟩
          · show Sx.StepAt _ _ _ _ _ _ _ 8
            intro L A w up hun hd F H
            have F := Sx.Fr.to F (kv' := [(10, .int .i64 3)]) ⟨rfl, trivial⟩
            refine Sx.step_on rfl (Sx.d_move F (Or.inl rfl) rfl) ?_
            rintro xv w' ⟨hx, rfl⟩
            exact ⟨(fun cv hc => hx.trans (Option.some.inj (Option.some.inj hc))), H⟩
          · show Sx.StepAt _ _ _ _ _ _ _ 9
            intro L A w up hun hd F H
            have F := Sx.Fr.to F (kv' := [(6, .pointer (some ⟨g5, 0, none⟩)), (35, .int .i64 3)]) ⟨rfl, rfl, trivial⟩
            refine Sx.step_on rfl (Sx.d_iaddr (v := .pointer (some ⟨g5, 3, none⟩)) F rfl rfl rfl (by kernel_rfl)) ?_
            rintro xv w' ⟨hx, rfl⟩
            exact ⟨(fun cv hc => hx.trans (Option.some.inj (Option.some.inj hc))), H⟩
          · show Sx.StepAt _ _ _ _ _ _ _ 10
            intro L A w up hun hd F H
            have F := Sx.Fr.to F (kv' := [(36, .pointer (some ⟨g5, 3, none⟩))]) ⟨rfl, trivial⟩
            refine Sx.step_on rfl (Sx.d_load1 (i := 1) (v := .int .u64 ((Wd.hi db / 4294967296#64).toNat)) one_22 F H rfl rfl rfl rfl) ?_
            rintro xv w' ⟨hx, rfl⟩
            exact ⟨(fun cv hc => hx.trans (Option.some.inj (Option.some.inj hc))), H⟩
          · show Sx.StepAt _ _ _ _ _ _ _ 11
            intro L A w up hun hd F H
            have F := Sx.Fr.to F (kv' := [(34, .int .u64 ((Wd.lo da % 4294967296#64).toNat)), (37, .int .u64 ((Wd.hi db / 4294967296#64).toNat))]) ⟨rfl, rfl, trivial⟩
            refine Sx.step_on rfl (Sx.d_bin (v := .int .u64 (((Wd.lo da % 4294967296#64) * (Wd.hi db / 4294967296#64)).toNat)) F rfl rfl rfl (Sx.i_mul64 (Wd.lo da % 4294967296#64) (Wd.hi db / 4294967296#64))) ?_
            rintro xv w' ⟨hx, rfl⟩
            exact ⟨(fun cv hc => hx.trans (Option.some.inj (Option.some.inj hc))), H⟩
          · show Sx.StepAt _ _ _ _ _ _ _ 12
            intro L A w up hun hd F H
            have F := Sx.Fr.to F (kv' := [(31, .int .u64 0), (38, .int .u64 (((Wd.lo da % 4294967296#64) * (Wd.hi db / 4294967296#64)).toNat))]) ⟨rfl, rfl, trivial⟩
            refine Sx.step_on rfl (Sx.d_bin (v := .int .u64 ((0#64 + ((Wd.lo da % 4294967296#64) * (Wd.hi db / 4294967296#64))).toNat)) F rfl rfl rfl (Sx.i_add64 0#64 ((Wd.lo da % 4294967296#64) * (Wd.hi db / 4294967296#64)))) ?_
            rintro xv w' ⟨hx, rfl⟩
            exact ⟨(fun cv hc => hx.trans (Option.some.inj (Option.some.inj hc))), H⟩
          · show Sx.StepAt _ _ _ _ _ _ _ 13
            intro L A w up hun hd F H
            have F := Sx.Fr.to F (kv' := [(9, .int .u64 ((n02 / 4294967296#64).toNat))]) ⟨rfl, trivial⟩
            refine Sx.step_on rfl (Sx.d_move F (Or.inl rfl) rfl) ?_
            rintro xv w' ⟨hx, rfl⟩
            exact ⟨(fun cv hc => hx.trans (Option.some.inj (Option.some.inj hc))), H⟩
          · show Sx.StepAt _ _ _ _ _ _ _ 14
            intro L A w up hun hd F H
            have F := Sx.Fr.to F (kv' := [(39, .int .u64 ((0#64 + ((Wd.lo da % 4294967296#64) * (Wd.hi db / 4294967296#64))).toNat)), (40, .int .u64 ((n02 / 4294967296#64).toNat))]) ⟨rfl, rfl, trivial⟩
            refine Sx.step_on rfl (Sx.d_bin (v := .int .u64 (((0#64 + ((Wd.lo da % 4294967296#64) * (Wd.hi db / 4294967296#64))) + (n02 / 4294967296#64)).toNat)) F rfl rfl rfl (Sx.i_add64 (0#64 + ((Wd.lo da % 4294967296#64) * (Wd.hi db / 4294967296#64))) (n02 / 4294967296#64))) ?_
            rintro xv w' ⟨hx, rfl⟩
            exact ⟨(fun cv hc => hx.trans (Option.some.inj (Option.some.inj hc))), H⟩
          · show Sx.StepAt _ _ _ _ _ _ _ 15
            intro L A w up hun hd F H
            have F := Sx.Fr.to F (kv' := [(41, .int .u64 (((0#64 + ((Wd.lo da % 4294967296#64) * (Wd.hi db / 4294967296#64))) + (n02 / 4294967296#64)).toNat))]) ⟨rfl, trivial⟩
            refine Sx.step_on rfl (Sx.d_move F (Or.inr rfl) rfl) ?_
            rintro xv w' ⟨hx, rfl⟩
            exact ⟨(fun cv hc => hx.trans (Option.some.inj (Option.some.inj hc))), H⟩
        · intro L A w hL F H
          have F := Sx.Fr.to F (kv' := [(0, .agg #[.int .u64 ((Wd.hi da).toNat), .int .u64 ((Wd.lo da).toNat)]), (1, .agg #[.int .u64 ((Wd.hi db).toNat), .int .u64 ((Wd.lo db).toNat)]), (2, .pointer (some ⟨g1, 0, none⟩)), (3, .pointer (some ⟨g2, 0, none⟩)), (4, .pointer (some ⟨g3, 0, none⟩)), (12, .agg #[.int .u64 ((Wd.hi da).toNat), .int .u64 ((Wd.lo da).toNat)]), (13, .agg #[.int .u64 ((Wd.lo da % 4294967296#64).toNat), .int .u64 ((Wd.lo da / 4294967296#64).toNat), .int .u64 ((Wd.hi da % 4294967296#64).toNat), .int .u64 ((Wd.hi da / 4294967296#64).toNat)]), (5, .pointer (some ⟨g4, 0, none⟩)), (14, .agg #[.int .u64 ((Wd.hi db).toNat), .int .u64 ((Wd.lo db).toNat)]), (15, .agg #[.int .u64 ((Wd.lo db % 4294967296#64).toNat), .int .u64 ((Wd.lo db / 4294967296#64).toNat), .int .u64 ((Wd.hi db % 4294967296#64).toNat), .int .u64 ((Wd.hi db / 4294967296#64).toNat)]), (6, .pointer (some ⟨g5, 0, none⟩)), (16, .agg #[.int .u64 0, .int .u64 0, .int .u64 0, .int .u64 0]), (7, .pointer (some ⟨g6, 0, none⟩)), (8, .int .i64 0), (17, .int .i64 0), (18, .bool true), (9, .int .u64 ((n02 / 4294967296#64).toNat)), (10, .int .i64 3), (21, .int .i64 0), (22, .int .i64 3), (23, .int .i64 3), (24, .bool true), (42, .int .i64 0), (43, .int .i64 2), (44, .int .i64 2), (45, .int .u64 n02.toNat), (46, .int .u64 ((n02 % 4294967296#64).toNat)), (47, .pointer (some ⟨g6, 2, none⟩)), (48, .int .u64 n02.toNat), (49, .int .u64 ((n02 / 4294967296#64).toNat)), (25, .int .i64 2), (26, .int .i64 3), (11, .int .u64 (((0#64 + ((Wd.lo da % 4294967296#64) * (Wd.hi db / 4294967296#64))) + (n02 / 4294967296#64)).toNat))]) ⟨rfl, rfl, rfl, rfl, rfl, rfl, rfl, rfl, rfl, rfl, rfl, rfl, rfl, rfl, rfl, rfl, rfl, rfl, rfl, rfl, rfl, rfl, rfl, rfl, rfl, rfl, rfl, rfl, rfl, rfl, rfl, rfl, rfl, trivial⟩
          obtain ⟨n03, hn03⟩ : ∃ q, ((0#64 + ((Wd.lo da % 4294967296#64) * (Wd.hi db / 4294967296#64))) + (n02 / 4294967296#64)) = q := ⟨_, rfl⟩
          rw [hn03] at F
          refine hK30 _ _ ?_
          refine Sx.seq (fun K31 hK31 => ?_)
          refine Sx.plain ?_
          refine Sx.sv F (Sx.d_move F (Or.inl rfl) rfl) (Sx.wanted_none rfl _) rfl (by decide) (fun A F => ?_)
          refine Sx.sv F (Sx.d_move F (Or.inl rfl) rfl) (Sx.wanted_none rfl _) rfl (by decide) (fun A F => ?_)
          refine Sx.sv F (Sx.d_bin (v := .int .i64 3) F rfl rfl rfl (Sx.i_addS (by decide))) (Sx.wanted_none rfl _) rfl (by decide) (fun A F => ?_)
          refine Sx.sv F (Sx.d_move F (Or.inl rfl) rfl) (Sx.wanted_none rfl _) rfl (by decide) (fun A F => ?_)
          refine Sx.sv F (Sx.d_bin (v := .int .u64 ((n03 % 4294967296#64).toNat)) F rfl rfl rfl (Sx.i_rem64 n03 4294967296#64 (by decide))) (Sx.wanted_none rfl _) rfl (by decide) (fun A F => ?_)
          refine Sx.sv F (Sx.d_iaddr (v := .pointer (some ⟨g6, 3, none⟩)) F rfl rfl rfl (by kernel_rfl)) (Sx.wanted_none rfl _) rfl (by decide) (fun A F => ?_)
          refine Sx.ss F (Sx.d_store (i := 0) (xs := [.int .u64 ((n03 % 4294967296#64).toNat)]) (us := [.int .u64 ((n00 % 4294967296#64).toNat), .int .u64 ((n01 % 4294967296#64).toNat), .int .u64 ((n02 % 4294967296#64).toNat), .int .u64 ((n03 % 4294967296#64).toNat)]) sz_22 F H rfl rfl rfl rfl rfl rfl rfl (Nat.le_of_ble_eq_true rfl) rfl) (Sx.wanted_none rfl _) rfl (fun A w F (H : Sx.Own w0 _ [(true, g6, [.int .u64 ((n00 % 4294967296#64).toNat), .int .u64 ((n01 % 4294967296#64).toNat), .int .u64 ((n02 % 4294967296#64).toNat), .int .u64 ((n03 % 4294967296#64).toNat)]), (true, g5, [.int .u64 ((Wd.lo db % 4294967296#64).toNat), .int .u64 ((Wd.lo db / 4294967296#64).toNat), .int .u64 ((Wd.hi db % 4294967296#64).toNat), .int .u64 ((Wd.hi db / 4294967296#64).toNat)]), (true, g4, [.int .u64 ((Wd.lo da % 4294967296#64).toNat), .int .u64 ((Wd.lo da / 4294967296#64).toNat), .int .u64 ((Wd.hi da % 4294967296#64).toNat), .int .u64 ((Wd.hi da / 4294967296#64).toNat)]), (true, g3, [.int .u64 ((Wd.hi 0#128).toNat), .int .u64 ((Wd.lo 0#128).toNat)]), (true, g2, [.int .u64 ((Wd.hi db).toNat), .int .u64 ((Wd.lo db).toNat)]), (true, g1, [.int .u64 ((Wd.hi da).toNat), .int .u64 ((Wd.lo da).toNat)])] []) => ?_)
          refine Sx.nil ?_
          refine hK31 _ _ ?_
          refine Sx.plain ?_
          refine Sx.sv F (Sx.d_move F (Or.inl rfl) rfl) (Sx.wanted_none rfl _) rfl (by decide) (fun A F => ?_)
          refine Sx.sv F (Sx.d_bin (v := .int .u64 ((n03 / 4294967296#64).toNat)) F rfl rfl rfl (Sx.i_quo64 n03 4294967296#64 (by decide))) (Sx.wanted_none rfl _) rfl (by decide) (fun A F => ?_)
          refine Sx.sv F (Sx.d_move F (Or.inr rfl) rfl) (Sx.wanted_none rfl _) rfl (by decide) (fun A F => ?_)
          refine Sx.nil ?_
          refine hK29 _ _ ?_
          refine Sx.plain ?_
          refine Sx.sv F (Sx.d_move F (Or.inl rfl) rfl) (Sx.wanted_none rfl _) rfl (by decide) (fun A F => ?_)
          refine Sx.sv F (Sx.d_bin (v := .int .i64 4) F rfl rfl rfl (Sx.i_addS (by decide))) (Sx.wanted_none rfl _) rfl (by decide) (fun A F => ?_)
          refine Sx.sv F (Sx.d_move F (Or.inr rfl) rfl) (Sx.wanted_none rfl _) rfl (by decide) (fun A F => ?_)
          refine Sx.nil ?_
          try dsimp only [Exit.then]
          rw [rounds_succ]
          refine Sx.seq (fun K32 hK32 => ?_)
          refine Sx.seq (fun K33 hK33 => ?_)
          refine Sx.plain ?_
          refine Sx.sv F (Sx.d_move F (Or.inl rfl) rfl) (Sx.wanted_none rfl _) rfl (by decide) (fun A F => ?_)
          refine Sx.sv F (Sx.d_move F (Or.inl rfl) rfl) (Sx.wanted_none rfl _) rfl (by decide) (fun A F => ?_)
          refine Sx.sv F (Sx.d_bin (v := .int .i64 4) F rfl rfl rfl (Sx.i_addS (by decide))) (Sx.wanted_none rfl _) rfl (by decide) (fun A F => ?_)
          refine Sx.sv F (Sx.d_bin (v := .bool false) F rfl rfl rfl (Sx.i_lt (by decide))) (Sx.wanted_none rfl _) rfl (by decide) (fun A F => ?_)
          refine Sx.nil ?_
          refine hK33 _ _ ?_
          refine Sx.condF F rfl ?_
          refine wp_exit ?_
          try dsimp only [Exit.then, Exit.jump]
          refine Sx.exit_here ?_
          refine hK9 _ _ ?_
          refine Sx.plain ?_
          refine Sx.sv F (Sx.d_move F (Or.inl rfl) rfl) (Sx.wanted_none rfl _) rfl (by decide) (fun A F => ?_)
          refine Sx.sv F (Sx.d_bin (v := .int .i64 1) F rfl rfl rfl (Sx.i_addS (by decide))) (Sx.wanted_none rfl _) rfl (by decide) (fun A F => ?_)
          refine Sx.sv F (Sx.d_move F (Or.inr rfl) rfl) (Sx.wanted_none rfl _) rfl (by decide) (fun A F => ?_)
          refine Sx.nil ?_
          try dsimp only [Exit.then]
          rw [rounds_succ]
          refine Sx.seq (fun K34 hK34 => ?_)
          refine Sx.seq (fun K35 hK35 => ?_)
          refine Sx.plain ?_
          refine Sx.sv F (Sx.d_move F (Or.inl rfl) rfl) (Sx.wanted_none rfl _) rfl (by decide) (fun A F => ?_)
          refine Sx.sv F (Sx.d_bin (v := .bool true) F rfl rfl rfl (Sx.i_lt (by decide))) (Sx.wanted_none rfl _) rfl (by decide) (fun A F => ?_)
          refine Sx.nil ?_
          refine hK35 _ _ ?_
          refine Sx.condT F rfl ?_
          refine wp_skip ?_
          refine hK34 _ _ ?_
          refine Sx.seq (fun K36 hK36 => ?_)
          refine wp_block ?_
          refine Sx.seq (fun K37 hK37 => ?_)
          refine Sx.plain ?_
          refine Sx.sv F (Sx.d_move F (Or.inr rfl) rfl) (Sx.wanted_none rfl _) rfl (by decide) (fun A F => ?_)
          refine Sx.nil ?_
          refine hK37 _ _ ?_
          refine Sx.seq (fun K38 hK38 => ?_)
          refine Sx.plain ?_
          refine Sx.sv F (Sx.d_move F (Or.inr rfl) rfl) (Sx.wanted_none rfl _) rfl (by decide) (fun A F => ?_)
          refine Sx.nil ?_
          refine hK38 _ _ ?_
          refine wp_block ?_
          refine wp_loop_rounds 5 ?_
          try dsimp only [Exit.then]
          rw [rounds_succ]
          refine Sx.seq (fun K39 hK39 => ?_)
          refine Sx.seq (fun K40 hK40 => ?_)
          refine Sx.plain ?_
          refine Sx.sv F (Sx.d_move F (Or.inl rfl) rfl) (Sx.wanted_none rfl _) rfl (by decide) (fun A F => ?_)
          refine Sx.sv F (Sx.d_move F (Or.inl rfl) rfl) (Sx.wanted_none rfl _) rfl (by decide) (fun A F => ?_)
          refine Sx.sv F (Sx.d_bin (v := .int .i64 1) F rfl rfl rfl (Sx.i_addS (by decide))) (Sx.wanted_none rfl _) rfl (by decide) (fun A F => ?_)
          refine Sx.sv F (Sx.d_bin (v := .bool true) F rfl rfl rfl (Sx.i_lt (by decide))) (Sx.wanted_none rfl _) rfl (by decide) (fun A F => ?_)
          refine Sx.nil ?_
          refine hK40 _ _ ?_
          refine Sx.condT F rfl ?_
          refine wp_skip ?_
          refine hK39 _ _ ?_
          refine Sx.seq (fun K41 hK41 => ?_)
          refine wp_block ?_
          refine Sx.seq (fun K42 hK42 => ?_)
          have F := Sx.Fr.to F (kv' := [(0, .agg #[.int .u64 ((Wd.hi da).toNat), .int .u64 ((Wd.lo da).toNat)]), (1, .agg #[.int .u64 ((Wd.hi db).toNat), .int .u64 ((Wd.lo db).toNat)]), (2, .pointer (some ⟨g1, 0, none⟩)), (3, .pointer (some ⟨g2, 0, none⟩)), (4, .pointer (some ⟨g3, 0, none⟩)), (12, .agg #[.int .u64 ((Wd.hi da).toNat), .int .u64 ((Wd.lo da).toNat)]), (13, .agg #[.int .u64 ((Wd.lo da % 4294967296#64).toNat), .int .u64 ((Wd.lo da / 4294967296#64).toNat), .int .u64 ((Wd.hi da % 4294967296#64).toNat), .int .u64 ((Wd.hi da / 4294967296#64).toNat)]), (5, .pointer (some ⟨g4, 0, none⟩)), (14, .agg #[.int .u64 ((Wd.hi db).toNat), .int .u64 ((Wd.lo db).toNat)]), (15, .agg #[.int .u64 ((Wd.lo db % 4294967296#64).toNat), .int .u64 ((Wd.lo db / 4294967296#64).toNat), .int .u64 ((Wd.hi db % 4294967296#64).toNat), .int .u64 ((Wd.hi db / 4294967296#64).toNat)]), (6, .pointer (some ⟨g5, 0, none⟩)), (16, .agg #[.int .u64 0, .int .u64 0, .int .u64 0, .int .u64 0]), (7, .pointer (some ⟨g6, 0, none⟩)), (8, .int .i64 1), (17, .int .i64 1), (18, .bool true), (9, .int .u64 0), (10, .int .i64 0), (21, .int .i64 1), (22, .int .i64 0), (23, .int .i64 1), (24, .bool true), (42, .int .i64 0), (43, .int .i64 3), (44, .int .i64 3), (45, .int .u64 n03.toNat), (46, .int .u64 ((n03 % 4294967296#64).toNat)), (47, .pointer (some ⟨g6, 3, none⟩)), (48, .int .u64 n03.toNat), (49, .int .u64 ((n03 / 4294967296#64).toNat)), (25, .int .i64 3), (26, .int .i64 4), (19, .int .i64 0), (20, .int .i64 1)]) ⟨rfl, rfl, rfl, rfl, rfl, rfl, rfl, rfl, rfl, rfl, rfl, rfl, rfl, rfl, rfl, rfl, rfl, rfl, rfl, rfl, rfl, rfl, rfl, rfl, rfl, rfl, rfl, rfl, rfl, rfl, rfl, rfl, rfl, rfl, trivial⟩
          refine Sx.drawn F (by kernel_rfl) (by kernel_rfl) (by kernel_rfl) [some (.int .i64 1), some (.int .i64 0), some (.int .i64 1), some (.pointer (some ⟨g6, 1, none⟩)), some (.int .u64 ((n01 % 4294967296#64).toNat)), some (.int .i64 1), some (.pointer (some ⟨g4, 1, none⟩)), some (.int .u64 ((Wd.lo da / 4294967296#64).toNat)), some (.int .i64 0), some (.pointer (some ⟨g5, 0, none⟩)), some (.int .u64 ((Wd.lo db % 4294967296#64).toNat)), some (.int .u64 (((Wd.lo da / 4294967296#64) * (Wd.lo db % 4294967296#64)).toNat)), some (.int .u64 (((n01 % 4294967296#64) + ((Wd.lo da / 4294967296#64) * (Wd.lo db % 4294967296#64))).toNat)), some (.int .u64 0), some (.int .u64 ((((n01 % 4294967296#64) + ((Wd.lo da / 4294967296#64) * (Wd.lo db % 4294967296#64))) + 0#64).toNat)), some (.int .u64 ((((n01 % 4294967296#64) + ((Wd.lo da / 4294967296#64) * (Wd.lo db % 4294967296#64))) + 0#64).toNat))] (fun L A w => Sx.Own w0 w [(true, g6, [.int .u64 ((n00 % 4294967296#64).toNat), .int .u64 ((n01 % 4294967296#64).toNat), .int .u64 ((n02 % 4294967296#64).toNat), .int .u64 ((n03 % 4294967296#64).toNat)]), (true, g5, [.int .u64 ((Wd.lo db % 4294967296#64).toNat), .int .u64 ((Wd.lo db / 4294967296#64).toNat), .int .u64 ((Wd.hi db % 4294967296#64).toNat), .int .u64 ((Wd.hi db / 4294967296#64).toNat)]), (true, g4, [.int .u64 ((Wd.lo da % 4294967296#64).toNat), .int .u64 ((Wd.lo da / 4294967296#64).toNat), .int .u64 ((Wd.hi da % 4294967296#64).toNat), .int .u64 ((Wd.hi da / 4294967296#64).toNat)]), (true, g3, [.int .u64 ((Wd.hi 0#128).toNat), .int .u64 ((Wd.lo 0#128).toNat)]), (true, g2, [.int .u64 ((Wd.hi db).toNat), .int .u64 ((Wd.lo db).toNat)]), (true, g1, [.int .u64 ((Wd.hi da).toNat), .int .u64 ((Wd.lo da).toNat)])] []) H.drew ?_ ?_
          · refine ⟨?_, ?_, ?_, ?_, ?_, ?_, ?_, ?_, ?_, ?_, ?_, ?_, ?_, ?_, ?_, ?_, trivial⟩
            · show Sx.StepAt _ _ _ _ _ _ _ 0
              intro L A w up hun hd F H
              have F := Sx.Fr.to F (kv' := [(8, .int .i64 1)]) ⟨rfl, trivial⟩
              refine Sx.step_on rfl (Sx.d_move F (Or.inl rfl) rfl) ?_
              rintro xv w' ⟨hx, rfl⟩
              exact ⟨(fun cv hc => hx.trans (Option.some.inj (Option.some.inj hc))), H⟩
            · show Sx.StepAt _ _ _ _ _ _ _ 1
              intro L A w up hun hd F H
              have F := Sx.Fr.to F (kv' := [(10, .int .i64 0)]) ⟨rfl, trivial⟩
              refine Sx.step_on rfl (Sx.d_move F (Or.inl rfl) rfl) ?_
              rintro xv w' ⟨hx, rfl⟩
              exact ⟨(fun cv hc => hx.trans (Option.some.inj (Option.some.inj hc))), H⟩
            · show Sx.StepAt _ _ _ _ _ _ _ 2
              intro L A w up hun hd F H
              have F := Sx.Fr.to F (kv' := [(27, .int .i64 1), (28, .int .i64 0)]) ⟨rfl, rfl, trivial⟩
              refine Sx.step_on rfl (Sx.d_bin (v := .int .i64 1) F rfl rfl rfl (Sx.i_addS (by decide))) ?_
              rintro xv w' ⟨hx, rfl⟩
              exact ⟨(fun cv hc => hx.trans (Option.some.inj (Option.some.inj hc))), H⟩
            · show Sx.StepAt _ _ _ _ _ _ _ 3
              intro L A w up hun hd F H
              have F := Sx.Fr.to F (kv' := [(7, .pointer (some ⟨g6, 0, none⟩)), (29, .int .i64 1)]) ⟨rfl, rfl, trivial⟩
              refine Sx.step_on rfl (Sx.d_iaddr (v := .pointer (some ⟨g6, 1, none⟩)) F rfl rfl rfl (by kernel_rfl)) ?_
              rintro xv w' ⟨hx, rfl⟩
              exact ⟨(fun cv hc => hx.trans (Option.some.inj (Option.some.inj hc))), H⟩
            · show Sx.StepAt _ _ _ _ _ _ _ 4
              intro L A w up hun hd F H
              have F := Sx.Fr.to F (kv' := [(30, .pointer (some ⟨g6, 1, none⟩))]) ⟨rfl, trivial⟩
              refine Sx.step_on rfl (Sx.d_load1 (i := 0) (v := .int .u64 ((n01 % 4294967296#64).toNat)) one_22 F H rfl rfl rfl rfl) ?_
              rintro xv w' ⟨hx, rfl⟩
              exact ⟨(fun cv hc => hx.trans (Option.some.inj (Option.some.inj hc))), H⟩
            · show Sx.StepAt _ _ _ _ _ _ _ 5
              intro L A w up hun hd F H
              have F := Sx.Fr.to F (kv' := [(8, .int .i64 1)]) ⟨rfl, trivial⟩
              refine Sx.step_on rfl (Sx.d_move F (Or.inl rfl) rfl) ?_
              rintro xv w' ⟨hx, rfl⟩
              exact ⟨(fun cv hc => hx.trans (Option.some.inj (Option.some.inj hc))), H⟩
            · show Sx.StepAt _ _ _ _ _ _ _ 6
              intro L A w up hun hd F H
              have F := Sx.Fr.to F (kv' := [(5, .pointer (some ⟨g4, 0, none⟩)), (32, .int .i64 1)]) ⟨rfl, rfl, trivial⟩
              refine Sx.step_on rfl (Sx.d_iaddr (v := .pointer (some ⟨g4, 1, none⟩)) F rfl rfl rfl (by kernel_rfl)) ?_
              rintro xv w' ⟨hx, rfl⟩
              exact ⟨(fun cv hc => hx.trans (Option.some.inj (Option.some.inj hc))), H⟩
            · show Sx.StepAt _ _ _ _ _ _ _ 7
              intro L A w up hun hd F H
              have F := Sx.Fr.to F (kv' := [(33, .pointer (some ⟨g4, 1, none⟩))]) ⟨rfl, trivial⟩
              refine Sx.step_on rfl (Sx.d_load1 (i := 2) (v := .int .u64 ((Wd.lo da / 4294967296#64).toNat)) one_22 F H rfl rfl rfl rfl) ?_
              rintro xv w' ⟨hx, rfl⟩
              exact ⟨(fun cv hc => hx.trans (Option.some.inj (Option.some.inj hc))), H⟩
            · show Sx.StepAt _ _ _ _ _ _ _ 8
              intro L A w up hun hd F H
              have F := Sx.Fr.to F (kv' := [(10, .int .i64 0)]) ⟨rfl, trivial⟩
              refine Sx.step_on rfl (Sx.d_move F (Or.inl rfl) rfl) ?_
              rintro xv w' ⟨hx, rfl⟩
              exact ⟨(fun cv hc => hx.trans (Option.some.inj (Option.some.inj hc))), H⟩
            · show Sx.StepAt _ _ _ _ _ _ _ 9
              intro L A w up hun hd F H
              have F := Sx.Fr.to F (kv' := [(6, .pointer (some ⟨g5, 0, none⟩)), (35, .int .i64 0)]) ⟨rfl, rfl, trivial⟩
              refine Sx.step_on rfl (Sx.d_iaddr (v := .pointer (some ⟨g5, 0, none⟩)) F rfl rfl rfl (by kernel_rfl)) ?_
              rintro xv w' ⟨hx, rfl⟩
              exact ⟨(fun cv hc => hx.trans (Option.some.inj (Option.some.inj hc))), H⟩
            · show Sx.StepAt _ _ _ _ _ _ _ 10
              intro L A w up hun hd F H
              have F := Sx.Fr.to F (kv' := [(36, .pointer (some ⟨g5, 0, none⟩))]) ⟨rfl, trivial⟩
              refine Sx.step_on rfl (Sx.d_load1 (i := 1) (v := .int .u64 ((Wd.lo db % 4294967296#64).toNat)) one_22 F H rfl rfl rfl rfl) ?_
              rintro xv w' ⟨hx, rfl⟩
              exact ⟨(fun cv hc => hx.trans (Option.some.inj (Option.some.inj hc))), H⟩
            · show Sx.StepAt _ _ _ _ _ _ _ 11
              intro L A w up hun hd F H
              have F := Sx.Fr.to F (kv' := [(34, .int .u64 ((Wd.lo da / 4294967296#64).toNat)), (37, .int .u64 ((Wd.lo db % 4294967296#64).toNat))]) ⟨rfl, rfl, trivial⟩
              refine Sx.step_on rfl (Sx.d_bin (v := .int .u64 (((Wd.lo da / 4294967296#64) * (Wd.lo db % 4294967296#64)).toNat)) F rfl rfl rfl (Sx.i_mul64 (Wd.lo da / 4294967296#64) (Wd.lo db % 4294967296#64))) ?_
              rintro xv w' ⟨hx, rfl⟩
              exact ⟨(fun cv hc => hx.trans (Option.some.inj (Option.some.inj hc))), H⟩
            · show Sx.StepAt _ _ _ _ _ _ _ 12
              intro L A w up hun hd F H
              have F := Sx.Fr.to F (kv' := [(31, .int .u64 ((n01 % 4294967296#64).toNat)), (38, .int .u64 (((Wd.lo da / 4294967296#64) * (Wd.lo db % 4294967296#64)).toNat))]) ⟨rfl, rfl, trivial⟩
              refine Sx.step_on rfl (Sx.d_bin (v := .int .u64 (((n01 % 4294967296#64) + ((Wd.lo da / 4294967296#64) * (Wd.lo db % 4294967296#64))).toNat)) F rfl rfl rfl (Sx.i_add64 (n01 % 4294967296#64) ((Wd.lo da / 4294967296#64) * (Wd.lo db % 4294967296#64)))) ?_
              rintro xv w' ⟨hx, rfl⟩
              exact ⟨(fun cv hc => hx.trans (Option.some.inj (Option.some.inj hc))), H⟩
            · show Sx.StepAt _ _ _ _ _ _ _ 13
              intro L A w up hun hd F H
              have F := Sx.Fr.to F (kv' := [(9, .int .u64 0)]) ⟨rfl, trivial⟩
              refine Sx.step_on rfl (Sx.d_move F (Or.inl rfl) rfl) ?_
              rintro xv w' ⟨hx, rfl⟩
              exact ⟨(fun cv hc => hx.trans (Option.some.inj (Option.some.inj hc))), H⟩
            · show Sx.StepAt _ _ _ _ _ _ _ 14
              intro L A w up hun hd F H
              have F := Sx.Fr.to F (kv' := [(39, .int .u64 (((n01 % 4294967296#64) + ((Wd.lo da / 4294967296#64) * (Wd.lo db % 4294967296#64))).toNat)), (40, .int .u64 0)]) ⟨rfl, rfl, trivial⟩
              refine Sx.step_on rfl (Sx.d_bin (v := .int .u64 ((((n01 % 4294967296#64) + ((Wd.lo da / 4294967296#64) * (Wd.lo db % 4294967296#64))) + 0#64).toNat)) F rfl rfl rfl (Sx.i_add64 ((n01 % 4294967296#64) + ((Wd.lo da / 4294967296#64) * (Wd.lo db % 4294967296#64))) 0#64)) ?_
              rintro xv w' ⟨hx, rfl⟩
              exact ⟨(fun cv hc => hx.trans (Option.some.inj (Option.some.inj hc))), H⟩
            · show Sx.StepAt _ _ _ _ _ _ _ 15
              intro L A w up hun hd F H
              have F := Sx.Fr.to F (kv' := [(41, .int .u64 ((((n01 % 4294967296#64) + ((Wd.lo da / 4294967296#64) * (Wd.lo db % 4294967296#64))) + 0#64).toNat))]) ⟨rfl, trivial⟩
              refine Sx.step_on rfl (Sx.d_move F (Or.inr rfl) rfl) ?_
              rintro xv w' ⟨hx, rfl⟩
              exact ⟨(fun cv hc => hx.trans (Option.some.inj (Option.some.inj hc))), H⟩
          · intro L A w hL F H
            have F := Sx.Fr.to F (kv' := [(0, .agg #[.int .u64 ((Wd.hi da).toNat), .int .u64 ((Wd.lo da).toNat)]), (1, .agg #[.int .u64 ((Wd.hi db).toNat), .int .u64 ((Wd.lo db).toNat)]), (2, .pointer (some ⟨g1, 0, none⟩)), (3, .pointer (some ⟨g2, 0, none⟩)), (4, .pointer (some ⟨g3, 0, none⟩)), (12, .agg #[.int .u64 ((Wd.hi da).toNat), .int .u64 ((Wd.lo da).toNat)]), (13, .agg #[.int .u64 ((Wd.lo da % 4294967296#64).toNat), .int .u64 ((Wd.lo da / 4294967296#64).toNat), .int .u64 ((Wd.hi da % 4294967296#64).toNat), .int .u64 ((Wd.hi da / 4294967296#64).toNat)]), (5, .pointer (some ⟨g4, 0, none⟩)), (14, .agg #[.int .u64 ((Wd.hi db).toNat), .int .u64 ((Wd.lo db).toNat)]), (15, .agg #[.int .u64 ((Wd.lo db % 4294967296#64).toNat), .int .u64 ((Wd.lo db / 4294967296#64).toNat), .int .u64 ((Wd.hi db % 4294967296#64).toNat), .int .u64 ((Wd.hi db / 4294967296#64).toNat)]), (6, .pointer (some ⟨g5, 0, none⟩)), (16, .agg #[.int .u64 0, .int .u64 0, .int .u64 0, .int .u64 0]), (7, .pointer (some ⟨g6, 0, none⟩)), (8, .int .i64 1), (17, .int .i64 1), (18, .bool true), (9, .int .u64 0), (10, .int .i64 0), (21, .int .i64 1), (22, .int .i64 0), (23, .int .i64 1), (24, .bool true), (42, .int .i64 0), (43, .int .i64 3), (44, .int .i64 3), (45, .int .u64 n03.toNat), (46, .int .u64 ((n03 % 4294967296#64).toNat)), (47, .pointer (some ⟨g6, 3, none⟩)), (48, .int .u64 n03.toNat), (49, .int .u64 ((n03 / 4294967296#64).toNat)), (25, .int .i64 3), (26, .int .i64 4), (19, .int .i64 0), (20, .int .i64 1), (11, .int .u64 ((((n01 % 4294967296#64) + ((Wd.lo da / 4294967296#64) * (Wd.lo db % 4294967296#64))) + 0#64).toNat))]) ⟨rfl, rfl, rfl, rfl, rfl, rfl, rfl, rfl, rfl, rfl, rfl, rfl, rfl, rfl, rfl, rfl, rfl, rfl, rfl, rfl, rfl, rfl, rfl, rfl, rfl, rfl, rfl, rfl, rfl, rfl, rfl, rfl, rfl, rfl, rfl, trivial⟩
            obtain ⟨n10, hn10⟩ : ∃ q, (((n01 % 4294967296#64) + ((Wd.lo da / 4294967296#64) * (Wd.lo db % 4294967296#64))) + 0#64) = q := ⟨_, rfl⟩
            rw [hn10] at F
            refine hK42 _ _ ?_
            refine Sx.seq (fun K43 hK43 => ?_)
            refine Sx.plain ?_
            refine Sx.sv F (Sx.d_move F (Or.inl rfl) rfl) (Sx.wanted_none rfl _) rfl (by decide) (fun A F => ?_)
            refine Sx.sv F (Sx.d_move F (Or.inl rfl) rfl) (Sx.wanted_none rfl _) rfl (by decide) (fun A F => ?_)
            refine Sx.sv F (Sx.d_bin (v := .int .i64 1) F rfl rfl rfl (Sx.i_addS (by decide))) (Sx.wanted_none rfl _) rfl (by decide) (fun A F => ?_)
            refine Sx.sv F (Sx.d_move F (Or.inl rfl) rfl) (Sx.wanted_none rfl _) rfl (by decide) (fun A F => ?_)
            refine Sx.sv F (Sx.d_bin (v := .int .u64 ((n10 % 4294967296#64).toNat)) F rfl rfl rfl (Sx.i_rem64 n10 4294967296#64 (by decide))) (Sx.wanted_none rfl _) rfl (by decide) (fun A F => ?_)
            refine Sx.sv F (Sx.d_iaddr (v := .pointer (some ⟨g6, 1, none⟩)) F rfl rfl rfl (by kernel_rfl)) (Sx.wanted_none rfl _) rfl (by decide) (fun A F => ?_)
            refine Sx.ss F (Sx.d_store (i := 0) (xs := [.int .u64 ((n10 % 4294967296#64).toNat)]) (us := [.int .u64 ((n00 % 4294967296#64).toNat), .int .u64 ((n10 % 4294967296#64).toNat), .int .u64 ((n02 % 4294967296#64).toNat), .int .u64 ((n03 % 4294967296#64).toNat)]) sz_22 F H rfl rfl rfl rfl rfl rfl rfl (Nat.le_of_ble_eq_true rfl) rfl) (Sx.wanted_none rfl _) rfl (fun A w F (H : Sx.Own w0 _ [(true, g6, [.int .u64 ((n00 % 4294967296#64).toNat), .int .u64 ((n10 % 4294967296#64).toNat), .int .u64 ((n02 % 4294967296#64).toNat), .int .u64 ((n03 % 4294967296#64).toNat)]), (true, g5, [.int .u64 ((Wd.lo db % 4294967296#64).toNat), .int .u64 ((Wd.lo db / 4294967296#64).toNat), .int .u64 ((Wd.hi db % 4294967296#64).toNat), .int .u64 ((Wd.hi db / 4294967296#64).toNat)]), (true, g4, [.int .u64 ((Wd.lo da % 4294967296#64).toNat), .int .u64 ((Wd.lo da / 4294967296#64).toNat), .int .u64 ((Wd.hi da % 4294967296#64).toNat), .int .u64 ((Wd.hi da / 4294967296#64).toNat)]), (true, g3, [.int .u64 ((Wd.hi 0#128).toNat), .int .u64 ((Wd.lo 0#128).toNat)]), (true, g2, [.int .u64 ((Wd.hi db).toNat), .int .u64 ((Wd.lo db).toNat)]), (true, g1, [.int .u64 ((Wd.hi da).toNat), .int .u64 ((Wd.lo da).toNat)])] []) => ?_)
            refine Sx.nil ?_
            refine hK43 _ _ ?_
            refine Sx.plain ?_
            refine Sx.sv F (Sx.d_move F (Or.inl rfl) rfl) (Sx.wanted_none rfl _) rfl (by decide) (fun A F => ?_)
            refine Sx.sv F (Sx.d_bin (v := .int .u64 ((n10 / 4294967296#64).toNat)) F rfl rfl rfl (Sx.i_quo64 n10 4294967296#64 (by decide))) (Sx.wanted_none rfl _) rfl (by decide) (fun A F => ?_)
            refine Sx.sv F (Sx.d_move F (Or.inr rfl) rfl) (Sx.wanted_none rfl _) rfl (by decide) (fun A F => ?_)
            refine Sx.nil ?_
            refine hK41 _ _ ?_
            refine Sx.plain ?_
            refine Sx.sv F (Sx.d_move F (Or.inl rfl) rfl) (Sx.wanted_none rfl _) rfl (by decide) (fun A F => ?_)
            refine Sx.sv F (Sx.d_bin (v := .int .i64 1) F rfl rfl rfl (Sx.i_addS (by decide))) (Sx.wanted_none rfl _) rfl (by decide) (fun A F => ?_)
            refine Sx.sv F (Sx.d_move F (Or.inr rfl) rfl) (Sx.wanted_none rfl _) rfl (by decide) (fun A F => ?_)
            refine Sx.nil ?_
            try dsimp only [Exit.then]
            rw [rounds_succ]
            refine Sx.seq (fun K44 hK44 => ?_)
            refine Sx.seq (fun K45 hK45 => ?_)
            refine Sx.plain ?_
            refine Sx.sv F (Sx.d_move F (Or.inl rfl) rfl) (Sx.wanted_none rfl _) rfl (by decide) (fun A F => ?_)
            refine Sx.sv F (Sx.d_move F (Or.inl rfl) rfl) (Sx.wanted_none rfl _) rfl (by decide) (fun A F => ?_)
            refine Sx.sv F (Sx.d_bin (v := .int .i64 2) F rfl rfl rfl (Sx.i_addS (by decide))) (Sx.wanted_none rfl _) rfl (by decide) (fun A F => ?_)
            refine Sx.sv F (Sx.d_bin (v := .bool true) F rfl rfl rfl (Sx.i_lt (by decide))) (Sx.wanted_none rfl _) rfl (by decide) (fun A F => ?_)
            refine Sx.nil ?_
            refine hK45 _ _ ?_
            refine Sx.condT F rfl ?_
            refine wp_skip ?_
            refine hK44 _ _ ?_
            refine Sx.seq (fun K46 hK46 => ?_)
            refine wp_block ?_
            refine Sx.seq (fun K47 hK47 => ?_)
            have F := Sx.Fr.to F (kv' := [(0, .agg #[.int .u64 ((Wd.hi da).toNat), .int .u64 ((Wd.lo da).toNat)]), (1, .agg #[.int .u64 ((Wd.hi db).toNat), .int .u64 ((Wd.lo db).toNat)]), (2, .pointer (some ⟨g1, 0, none⟩)), (3, .pointer (some ⟨g2, 0, none⟩)), (4, .pointer (some ⟨g3, 0, none⟩)), (12, .agg #[.int .u64 ((Wd.hi da).toNat), .int .u64 ((Wd.lo da).toNat)]), (13, .agg #[.int .u64 ((Wd.lo da % 4294967296#64).toNat), .int .u64 ((Wd.lo da / 4294967296#64).toNat), .int .u64 ((Wd.hi da % 4294967296#64).toNat), .int .u64 ((Wd.hi da / 4294967296#64).toNat)]), (5, .pointer (some ⟨g4, 0, none⟩)), (14, .agg #[.int .u64 ((Wd.hi db).toNat), .int .u64 ((Wd.lo db).toNat)]), (15, .agg #[.int .u64 ((Wd.lo db % 4294967296#64).toNat), .int .u64 ((Wd.lo db / 4294967296#64).toNat), .int .u64 ((Wd.hi db % 4294967296#64).toNat), .int .u64 ((Wd.hi db / 4294967296#64).toNat)]), (6, .pointer (some ⟨g5, 0, none⟩)), (16, .agg #[.int .u64 0, .int .u64 0, .int .u64 0, .int .u64 0]), (7, .pointer (some ⟨g6, 0, none⟩)), (8, .int .i64 1), (17, .int .i64 1), (18, .bool true), (9, .int .u64 ((n10 / 4294967296#64).toNat)), (10, .int .i64 1), (21, .int .i64 1), (22, .int .i64 1), (23, .int .i64 2), (24, .bool true), (42, .int .i64 1), (43, .int .i64 0), (44, .int .i64 1), (45, .int .u64 n10.toNat), (46, .int .u64 ((n10 % 4294967296#64).toNat)), (47, .pointer (some ⟨g6, 1, none⟩)), (48, .int .u64 n10.toNat), (49, .int .u64 ((n10 / 4294967296#64).toNat)), (25, .int .i64 0), (26, .int .i64 1), (19, .int .i64 0), (20, .int .i64 1)]) ⟨rfl, rfl, rfl, rfl, rfl, rfl, rfl, rfl, rfl, rfl, rfl, rfl, rfl, rfl, rfl, rfl, rfl, rfl, rfl, rfl, rfl, rfl, rfl, rfl, rfl, rfl, rfl, rfl, rfl, rfl, rfl, rfl, rfl, rfl, trivial⟩
            refine Sx.drawn F (by kernel_rfl) (by kernel_rfl) (by kernel_rfl) [some (.int .i64 1), some (.int .i64 1), some (.int .i64 2), some (.pointer (some ⟨g6, 2, none⟩)), some (.int .u64 ((n02 % 4294967296#64).toNat)), some (.int .i64 1), some (.pointer (some ⟨g4, 1, none⟩)), some (.int .u64 ((Wd.lo da / 4294967296#64).toNat)), some (.int .i64 1), some (.pointer (some ⟨g5, 1, none⟩)), some (.int .u64 ((Wd.lo db / 4294967296#64).toNat)), some (.int .u64 (((Wd.lo da / 4294967296#64) * (Wd.lo db / 4294967296#64)).toNat)), some (.int .u64 (((n02 % 4294967296#64) + ((Wd.lo da / 4294967296#64) * (Wd.lo db / 4294967296#64))).toNat)), some (.int .u64 ((n10 / 4294967296#64).toNat)), some (.int .u64 ((((n02 % 4294967296#64) + ((Wd.lo da / 4294967296#64) * (Wd.lo db / 4294967296#64))) + (n10 / 4294967296#64)).toNat)), some (.int .u64 ((((n02 % 4294967296#64) + ((Wd.lo da / 4294967296#64) * (Wd.lo db / 4294967296#64))) + (n10 / 4294967296#64)).toNat))] (fun L A w => Sx.Own w0 w [(true, g6, [.int .u64 ((n00 % 4294967296#64).toNat), .int .u64 ((n10 % 4294967296#64).toNat), .int .u64 ((n02 % 4294967296#64).toNat), .int .u64 ((n03 % 4294967296#64).toNat)]), (true, g5, [.int .u64 ((Wd.lo db % 4294967296#64).toNat), .int .u64 ((Wd.lo db / 4294967296#64).toNat), .int .u64 ((Wd.hi db % 4294967296#64).toNat), .int .u64 ((Wd.hi db / 4294967296#64).toNat)]), (true, g4, [.int .u64 ((Wd.lo da % 4294967296#64).toNat), .int .u64 ((Wd.lo da / 4294967296#64).toNat), .int .u64 ((Wd.hi da % 4294967296#64).toNat), .int .u64 ((Wd.hi da / 4294967296#64).toNat)]), (true, g3, [.int .u64 ((Wd.hi 0#128).toNat), .int .u64 ((Wd.lo 0#128).toNat)]), (true, g2, [.int .u64 ((Wd.hi db).toNat), .int .u64 ((Wd.lo db).toNat)]), (true, g1, [.int .u64 ((Wd.hi da).toNat), .int .u64 ((Wd.lo da).toNat)])] []) H.drew ?_ ?_
            · refine ⟨?_, ?_, ?_, ?_, ?_, ?_, ?_, ?_, ?_, ?_, ?_, ?_, ?_, ?_, ?_, ?_, trivial⟩
              · show Sx.StepAt _ _ _ _ _ _ _ 0
                intro L A w up hun hd F H
                have F := Sx.Fr.to F (kv' := [(8, .int .i64 1)]) ⟨rfl, trivial⟩
                refine Sx.step_on rfl (Sx.d_move F (Or.inl rfl) rfl) ?_
                rintro xv w' ⟨hx, rfl⟩
                exact ⟨(fun cv hc => hx.trans (Option.some.inj (Option.some.inj hc))), H⟩
              · show Sx.StepAt _ _ _ _ _ _ _ 1
                intro L A w up hun hd F H
                have F := Sx.Fr.to F (kv' := [(10, .int .i64 1)]) ⟨rfl, trivial⟩
                refine Sx.step_on rfl (Sx.d_move F (Or.inl rfl) rfl) ?_
                rintro xv w' ⟨hx, rfl⟩
                exact ⟨(fun cv hc => hx.trans (Option.some.inj (Option.some.inj hc))), H⟩
              · show Sx.StepAt _ _ _ _ _ _ _ 2
                intro L A w up hun hd F H
                have F := Sx.Fr.to F (kv' := [(27, .int .i64 1), (28, .int .i64 1)]) ⟨rfl, rfl, trivial⟩
                refine Sx.step_on rfl (Sx.d_bin (v := .int .i64 2) F rfl rfl rfl (Sx.i_addS (by decide))) ?_
                rintro xv w' ⟨hx, rfl⟩
                exact ⟨(fun cv hc => hx.trans (Option.some.inj (Option.some.inj hc))), H⟩
              · show Sx.StepAt _ _ _ _ _ _ _ 3
                intro L A w up hun hd F H
                have F := Sx.Fr.to F (kv' := [(7, .pointer (some ⟨g6, 0, none⟩)), (29, .int .i64 2)]) ⟨rfl, rfl, trivial⟩
                refine Sx.step_on rfl (Sx.d_iaddr (v := .pointer (some ⟨g6, 2, none⟩)) F rfl rfl rfl (by kernel_rfl)) ?_
                rintro xv w' ⟨hx, rfl⟩
                exact ⟨(fun cv hc => hx.trans (Option.some.inj (Option.some.inj hc))), H⟩
              · show Sx.StepAt _ _ _ _ _ _ _ 4
                intro L A w up hun hd F H
                have F := Sx.Fr.to F (kv' := [(30, .pointer (some ⟨g6, 2, none⟩))]) ⟨rfl, trivial⟩
                refine Sx.step_on rfl (Sx.d_load1 (i := 0) (v := .int .u64 ((n02 % 4294967296#64).toNat)) one_22 F H rfl rfl rfl rfl) ?_
                rintro xv w' ⟨hx, rfl⟩
                exact ⟨(fun cv hc => hx.trans (Option.some.inj (Option.some.inj hc))), H⟩
              · show Sx.StepAt _ _ _ _ _ _ _ 5
                intro L A w up hun hd F H
                have F := Sx.Fr.to F (kv' := [(8, .int .i64 1)]) ⟨rfl, trivial⟩
                refine Sx.step_on rfl (Sx.d_move F (Or.inl rfl) rfl) ?_
                rintro xv w' ⟨hx, rfl⟩
                exact ⟨(fun cv hc => hx.trans (Option.some.inj (Option.some.inj hc))), H⟩
              · show Sx.StepAt _ _ _ _ _ _ _ 6
                intro L A w up hun hd F H
                have F := Sx.Fr.to F (kv' := [(5, .pointer (some ⟨g4, 0, none⟩)), (32, .int .i64 1)]) ⟨rfl, rfl, trivial⟩
                refine Sx.step_on rfl (Sx.d_iaddr (v := .pointer (some ⟨g4, 1, none⟩)) F rfl rfl rfl (by kernel_rfl)) ?_
                rintro xv w' ⟨hx, rfl⟩
                exact ⟨(fun cv hc => hx.trans (Option.some.inj (Option.some.inj hc))), H⟩
              · show Sx.StepAt _ _ _ _ _ _ _ 7
                intro L A w up hun hd F H
                have F := Sx.Fr.to F (kv' := [(33, .pointer (some ⟨g4, 1, none⟩))]) ⟨rfl, trivial⟩
                refine Sx.step_on rfl (Sx.d_load1 (i := 2) (v := .int .u64 ((Wd.lo da / 4294967296#64).toNat)) one_22 F H rfl rfl rfl rfl) ?_
                rintro xv w' ⟨hx, rfl⟩
                exact ⟨(fun cv hc => hx.trans (Option.some.inj (Option.some.inj hc))), H⟩
              · show Sx.StepAt _ _ _ _ _ _ _ 8
                intro L A w up hun hd F H
                have F := Sx.Fr.to F (kv' := [(10, .int .i64 1)]) ⟨rfl, trivial⟩
                refine Sx.step_on rfl (Sx.d_move F (Or.inl rfl) rfl) ?_
                rintro xv w' ⟨hx, rfl⟩
                exact ⟨(fun cv hc => hx.trans (Option.some.inj (Option.some.inj hc))), H⟩
              · show Sx.StepAt _ _ _ _ _ _ _ 9
                intro L A w up hun hd F H
                have F := Sx.Fr.to F (kv' := [(6, .pointer (some ⟨g5, 0, none⟩)), (35, .int .i64 1)]) ⟨rfl, rfl, trivial⟩
                refine Sx.step_on rfl (Sx.d_iaddr (v := .pointer (some ⟨g5, 1, none⟩)) F rfl rfl rfl (by kernel_rfl)) ?_
                rintro xv w' ⟨hx, rfl⟩
                exact ⟨(fun cv hc => hx.trans (Option.some.inj (Option.some.inj hc))), H⟩
              · show Sx.StepAt _ _ _ _ _ _ _ 10
                intro L A w up hun hd F H
                have F := Sx.Fr.to F (kv' := [(36, .pointer (some ⟨g5, 1, none⟩))]) ⟨rfl, trivial⟩
                refine Sx.step_on rfl (Sx.d_load1 (i := 1) (v := .int .u64 ((Wd.lo db / 4294967296#64).toNat)) one_22 F H rfl rfl rfl rfl) ?_
                rintro xv w' ⟨hx, rfl⟩
                exact ⟨(fun cv hc => hx.trans (Option.some.inj (Option.some.inj hc))), H⟩
              · show Sx.StepAt _ _ _ _ _ _ _ 11
                intro L A w up hun hd F H
                have F := Sx.Fr.to F (kv' := [(34, .int .u64 ((Wd.lo da / 4294967296#64).toNat)), (37, .int .u64 ((Wd.lo db / 4294967296#64).toNat))]) ⟨rfl, rfl, trivial⟩
                refine Sx.step_on rfl (Sx.d_bin (v := .int .u64 (((Wd.lo da / 4294967296#64) * (Wd.lo db / 4294967296#64)).toNat)) F rfl rfl rfl (Sx.i_mul64 (Wd.lo da / 4294967296#64) (Wd.lo db / 4294967296#64))) ?_
                rintro xv w' ⟨hx, rfl⟩
                exact ⟨(fun cv hc => hx.trans (Option.some.inj (Option.some.inj hc))), H⟩
              · show Sx.StepAt _ _ _ _ _ _ _ 12
                intro L A w up hun hd F H
                have F := Sx.Fr.to F (kv' := [(31, .int .u64 ((n02 % 4294967296#64).toNat)), (38, .int .u64 (((Wd.lo da / 4294967296#64) * (Wd.lo db / 4294967296#64)).toNat))]) ⟨rfl, rfl, trivial⟩
                refine Sx.step_on rfl (Sx.d_bin (v := .int .u64 (((n02 % 4294967296#64) + ((Wd.lo da / 4294967296#64) * (Wd.lo db / 4294967296#64))).toNat)) F rfl rfl rfl (Sx.i_add64 (n02 % 4294967296#64) ((Wd.lo da / 4294967296#64) * (Wd.lo db / 4294967296#64)))) ?_
                rintro xv w' ⟨hx, rfl⟩
                exact ⟨(fun cv hc => hx.trans (Option.some.inj (Option.some.inj hc))), H⟩
              · show Sx.StepAt _ _ _ _ _ _ _ 13
                intro L A w up hun hd F H
                have F := Sx.Fr.to F (kv' := [(9, .int .u64 ((n10 / 4294967296#64).toNat))]) ⟨rfl, trivial⟩
                refine Sx.step_on rfl (Sx.d_move F (Or.inl rfl) rfl) ?_
                rintro xv w' ⟨hx, rfl⟩
                exact ⟨(fun cv hc => hx.trans (Option.some.inj (Option.some.inj hc))), H⟩
              · show Sx.StepAt _ _ _ _ _ _ _ 14
                intro L A w up hun hd F H
                have F := Sx.Fr.to F (kv' := [(39, .int .u64 (((n02 % 4294967296#64) + ((Wd.lo da / 4294967296#64) * (Wd.lo db / 4294967296#64))).toNat)), (40, .int .u64 ((n10 / 4294967296#64).toNat))]) ⟨rfl, rfl, trivial⟩
                refine Sx.step_on rfl (Sx.d_bin (v := .int .u64 ((((n02 % 4294967296#64) + ((Wd.lo da / 4294967296#64) * (Wd.lo db / 4294967296#64))) + (n10 / 4294967296#64)).toNat)) F rfl rfl rfl (Sx.i_add64 ((n02 % 4294967296#64) + ((Wd.lo da / 4294967296#64) * (Wd.lo db / 4294967296#64))) (n10 / 4294967296#64))) ?_
                rintro xv w' ⟨hx, rfl⟩
                exact ⟨(fun cv hc => hx.trans (Option.some.inj (Option.some.inj hc))), H⟩
              · show Sx.StepAt _ _ _ _ _ _ _ 15
                intro L A w up hun hd F H
                have F := Sx.Fr.to F (kv' := [(41, .int .u64 ((((n02 % 4294967296#64) + ((Wd.lo da / 4294967296#64) * (Wd.lo db / 4294967296#64))) + (n10 / 4294967296#64)).toNat))]) ⟨rfl, trivial⟩
                refine Sx.step_on rfl (Sx.d_move F (Or.inr rfl) rfl) ?_
                rintro xv w' ⟨hx, rfl⟩
                exact ⟨(fun cv hc => hx.trans (Option.some.inj (Option.some.inj hc))), H⟩
            · intro L A w hL F H
              have F := Sx.Fr.to F (kv' := [(0, .agg #[.int .u64 ((Wd.hi da).toNat), .int .u64 ((Wd.lo da).toNat)]), (1, .agg #[.int .u64 ((Wd.hi db).toNat), .int .u64 ((Wd.lo db).toNat)]), (2, .pointer (some ⟨g1, 0, none⟩)), (3, .pointer (some ⟨g2, 0, none⟩)), (4, .pointer (some ⟨g3, 0, none⟩)), (12, .agg #[.int .u64 ((Wd.hi da).toNat), .int .u64 ((Wd.lo da).toNat)]), (13, .agg #[.int .u64 ((Wd.lo da % 4294967296#64).toNat), .int .u64 ((Wd.lo da / 4294967296#64).toNat), .int .u64 ((Wd.hi da % 4294967296#64).toNat), .int .u64 ((Wd.hi da / 4294967296#64).toNat)]), (5, .pointer (some ⟨g4, 0, none⟩)), (14, .agg #[.int .u64 ((Wd.hi db).toNat), .int .u64 ((Wd.lo db).toNat)]), (15, .agg #[.int .u64 ((Wd.lo db % 4294967296#64).toNat), .int .u64 ((Wd.lo db / 4294967296#64).toNat), .int .u64 ((Wd.hi db % 4294967296#64).toNat), .int .u64 ((Wd.hi db / 4294967296#64).toNat)]), (6, .pointer (some ⟨g5, 0, none⟩)), (16, .agg #[.int .u64 0, .int .u64 0, .int .u64 0, .int .u64 0]), (7, .pointer (some ⟨g6, 0, none⟩)), (8, .int .i64 1), (17, .int .i64 1), (18, .bool true), (9, .int .u64 ((n10 / 4294967296#64).toNat)), (10, .int .i64 1), (21, .int .i64 1), (22, .int .i64 1), (23, .int .i64 2), (24, .bool true), (42, .int .i64 1), (43, .int .i64 0), (44, .int .i64 1), (45, .int .u64 n10.toNat), (46, .int .u64 ((n10 % 4294967296#64).toNat)), (47, .pointer (some ⟨g6, 1, none⟩)), (48, .int .u64 n10.toNat), (49, .int .u64 ((n10 / 4294967296#64).toNat)), (25, .int .i64 0), (26, .int .i64 1), (19, .int .i64 0), (20, .int .i64 1), (11, .int .u64 ((((n02 % 4294967296#64) + ((Wd.lo da / 4294967296#64) * (Wd.lo db / 4294967296#64))) + (n10 / 4294967296#64)).toNat))]) ⟨rfl, rfl, rfl, rfl, rfl, rfl, rfl, rfl, rfl, rfl, rfl, rfl, rfl, rfl, rfl, rfl, rfl, rfl, rfl, rfl, rfl, rfl, rfl, rfl, rfl, rfl, rfl, rfl, rfl, rfl, rfl, rfl, rfl, rfl, rfl, trivial⟩
              obtain ⟨n11, hn11⟩ : ∃ q, (((n02 % 4294967296#64) + ((Wd.lo da / 4294967296#64) * (Wd.lo db / 4294967296#64))) + (n10 / 4294967296#64)) = q := ⟨_, rfl⟩
              rw [hn11] at F
              refine hK47 _ _ ?_
              refine Sx.seq (fun K48 hK48 => ?_)
              refine Sx.plain ?_
              refine Sx.sv F (Sx.d_move F (Or.inl rfl) rfl) (Sx.wanted_none rfl _) rfl (by decide) (fun A F => ?_)
              refine Sx.sv F (Sx.d_move F (Or.inl rfl) rfl) (Sx.wanted_none rfl _) rfl (by decide) (fun A F => ?_)
              refine Sx.sv F (Sx.d_bin (v := .int .i64 2) F rfl rfl rfl (Sx.i_addS (by decide))) (Sx.wanted_none rfl _) rfl (by decide) (fun A F => ?_)
              refine Sx.sv F (Sx.d_move F (Or.inl rfl) rfl) (Sx.wanted_none rfl _) rfl (by decide) (fun A F => ?_)
              refine Sx.sv F (Sx.d_bin (v := .int .u64 ((n11 % 4294967296#64).toNat)) F rfl rfl rfl (Sx.i_rem64 n11 4294967296#64 (by decide))) (Sx.wanted_none rfl _) rfl (by decide) (fun A F => ?_)
              refine Sx.sv F (Sx.d_iaddr (v := .pointer (some ⟨g6, 2, none⟩)) F rfl rfl rfl (by kernel_rfl)) (Sx.wanted_none rfl _) rfl (by decide) (fun A F => ?_)
              refine Sx.ss F (Sx.d_store (i := 0) (xs := [.int .u64 ((n11 % 4294967296#64).toNat)]) (us := [.int .u64 ((n00 % 4294967296#64).toNat), .int .u64 ((n10 % 4294967296#64).toNat), .int .u64 ((n11 % 4294967296#64).toNat), .int .u64 ((n03 % 4294967296#64).toNat)]) sz_22 F H rfl rfl rfl rfl rfl rfl rfl (Nat.le_of_ble_eq_true rfl) rfl) (Sx.wanted_none rfl _) rfl (fun A w F (H : Sx.Own w0 _ [(true, g6, [.int .u64 ((n00 % 4294967296#64).toNat), .int .u64 ((n10 % 4294967296#64).toNat), .int .u64 ((n11 % 4294967296#64).toNat), .int .u64 ((n03 % 4294967296#64).toNat)]), (true, g5, [.int .u64 ((Wd.lo db % 4294967296#64).toNat), .int .u64 ((Wd.lo db / 4294967296#64).toNat), .int .u64 ((Wd.hi db % 4294967296#64).toNat), .int .u64 ((Wd.hi db / 4294967296#64).toNat)]), (true, g4, [.int .u64 ((Wd.lo da % 4294967296#64).toNat), .int .u64 ((Wd.lo da / 4294967296#64).toNat), .int .u64 ((Wd.hi da % 4294967296#64).toNat), .int .u64 ((Wd.hi da / 4294967296#64).toNat)]), (true, g3, [.int .u64 ((Wd.hi 0#128).toNat), .int .u64 ((Wd.lo 0#128).toNat)]), (true, g2, [.int .u64 ((Wd.hi db).toNat), .int .u64 ((Wd.lo db).toNat)]), (true, g1, [.int .u64 ((Wd.hi da).toNat), .int .u64 ((Wd.lo da).toNat)])] []) => ?_)
              refine Sx.nil ?_
              refine hK48 _ _ ?_
              refine Sx.plain ?_
              refine Sx.sv F (Sx.d_move F (Or.inl rfl) rfl) (Sx.wanted_none rfl _) rfl (by decide) (fun A F => ?_)
              refine Sx.sv F (Sx.d_bin (v := .int .u64 ((n11 / 4294967296#64).toNat)) F rfl rfl rfl (Sx.i_quo64 n11 4294967296#64 (by decide))) (Sx.wanted_none rfl _) rfl (by decide) (fun A F => ?_)
              refine Sx.sv F (Sx.d_move F (Or.inr rfl) rfl) (Sx.wanted_none rfl _) rfl (by decide) (fun A F => ?_)
              refine Sx.nil ?_
              refine hK46 _ _ ?_
              refine Sx.plain ?_
              refine Sx.sv F (Sx.d_move F (Or.inl rfl) rfl) (Sx.wanted_none rfl _) rfl (by decide) (fun A F => ?_)
              refine Sx.sv F (Sx.d_bin (v := .int .i64 2) F rfl rfl rfl (Sx.i_addS (by decide))) (Sx.wanted_none rfl _) rfl (by decide) (fun A F => ?_)
              refine Sx.sv F (Sx.d_move F (Or.inr rfl) rfl) (Sx.wanted_none rfl _) rfl (by decide) (fun A F => ?_)
              refine Sx.nil ?_
              try dsimp only [Exit.then]
              rw [rounds_succ]
              refine Sx.seq (fun K49 hK49 => ?_)
              refine Sx.seq (fun K50 hK50 => ?_)
              refine Sx.plain ?_
              refine Sx.sv F (Sx.d_move F (Or.inl rfl) rfl) (Sx.wanted_none rfl _) rfl (by decide) (fun A F => ?_)
              refine Sx.sv F (Sx.d_move F (Or.inl rfl) rfl) (Sx.wanted_none rfl _) rfl (by decide) (fun A F => ?_)
              refine Sx.sv F (Sx.d_bin (v := .int .i64 3) F rfl rfl rfl (Sx.i_addS (by decide))) (Sx.wanted_none rfl _) rfl (by decide) (fun A F => ?_)
              refine Sx.sv F (Sx.d_bin (v := .bool true) F rfl rfl rfl (Sx.i_lt (by decide))) (Sx.wanted_none rfl _) rfl (by decide) (fun A F => ?_)
              refine Sx.nil ?_
              refine hK50 _ _ ?_
              refine Sx.condT F rfl ?_
              refine wp_skip ?_
              refine hK49 _ _ ?_
              refine Sx.seq (fun K51 hK51 => ?_)
              refine wp_block ?_
              refine Sx.seq (fun K52 hK52 => ?_)
              have F := Sx.Fr.to F (kv' := [(0, .agg #[.int .u64 ((Wd.hi da).toNat), .int .u64 ((Wd.lo da).toNat)]), (1, .agg #[.int .u64 ((Wd.hi db).toNat), .int .u64 ((Wd.lo db).toNat)]), (2, .pointer (some ⟨g1, 0, none⟩)), (3, .pointer (some ⟨g2, 0, none⟩)), (4, .pointer (some ⟨g3, 0, none⟩)), (12, .agg #[.int .u64 ((Wd.hi da).toNat), .int .u64 ((Wd.lo da).toNat)]), (13, .agg #[.int .u64 ((Wd.lo da % 4294967296#64).toNat), .int .u64 ((Wd.lo da / 4294967296#64).toNat), .int .u64 ((Wd.hi da % 4294967296#64).toNat), .int .u64 ((Wd.hi da / 4294967296#64).toNat)]), (5, .pointer (some ⟨g4, 0, none⟩)), (14, .agg #[.int .u64 ((Wd.hi db).toNat), .int .u64 ((Wd.lo db).toNat)]), (15, .agg #[.int .u64 ((Wd.lo db % 4294967296#64).toNat), .int .u64 ((Wd.lo db / 4294967296#64).toNat), .int .u64 ((Wd.hi db % 4294967296#64).toNat), .int .u64 ((Wd.hi db / 4294967296#64).toNat)]), (6, .pointer (some ⟨g5, 0, none⟩)), (16, .agg #[.int .u64 0, .int .u64 0, .int .u64 0, .int .u64 0]), (7, .pointer (some ⟨g6, 0, none⟩)), (8, .int .i64 1), (17, .int .i64 1), (18, .bool true), (9, .int .u64 ((n11 / 4294967296#64).toNat)), (10, .int .i64 2), (21, .int .i64 1), (22, .int .i64 2), (23, .int .i64 3), (24, .bool true), (42, .int .i64 1), (43, .int .i64 1), (44, .int .i64 2), (45, .int .u64 n11.toNat), (46, .int .u64 ((n11 % 4294967296#64).toNat)), (47, .pointer (some ⟨g6, 2, none⟩)), (48, .int .u64 n11.toNat), (49, .int .u64 ((n11 / 4294967296#64).toNat)), (25, .int .i64 1), (26, .int .i64 2), (19, .int .i64 0), (20, .int .i64 1)]) ⟨rfl, rfl, rfl, rfl, rfl, rfl, rfl, rfl, rfl, rfl, rfl, rfl, rfl, rfl, rfl, rfl, rfl, rfl, rfl, rfl, rfl, rfl, rfl, rfl, rfl, rfl, rfl, rfl, rfl, rfl, rfl, rfl, rfl, rfl, trivial⟩
              refine Sx.drawn F (by kernel_rfl) (by kernel_rfl) (by kernel_rfl) [some (.int .i64 1), some (.int .i64 2), some (.int .i64 3), some (.pointer (some ⟨g6, 3, none⟩)), some (.int .u64 ((n03 % 4294967296#64).toNat)), some (.int .i64 1), some (.pointer (some ⟨g4, 1, none⟩)), some (.int .u64 ((Wd.lo da / 4294967296#64).toNat)), some (.int .i64 2), some (.pointer (some ⟨g5, 2, none⟩)), some (.int .u64 ((Wd.hi db % 4294967296#64).toNat)), some (.int .u64 (((Wd.lo da / 4294967296#64) * (Wd.hi db % 4294967296#64)).toNat)), some (.int .u64 (((n03 % 4294967296#64) + ((Wd.lo da / 4294967296#64) * (Wd.hi db % 4294967296#64))).toNat)), some (.int .u64 ((n11 / 4294967296#64).toNat)), some (.int .u64 ((((n03 % 4294967296#64) + ((Wd.lo da / 4294967296#64) * (Wd.hi db % 4294967296#64))) + (n11 / 4294967296#64)).toNat)), some (.int .u64 ((((n03 % 4294967296#64) + ((Wd.lo da / 4294967296#64) * (Wd.hi db % 4294967296#64))) + (n11 / 4294967296#64)).toNat))] (fun L A w => Sx.Own w0 w [(true, g6, [.int .u64 ((n00 % 4294967296#64).toNat), .int .u64 ((n10 % 4294967296#64).toNat), .int .u64 ((n11 % 4294967296#64).toNat), .int .u64 ((n03 % 4294967296#64).toNat)]), (true, g5, [.int .u64 ((Wd.lo db % 4294967296#64).toNat), .int .u64 ((Wd.lo db / 4294967296#64).toNat), .int .u64 ((Wd.hi db % 4294967296#64).toNat), .int .u64 ((Wd.hi db / 4294967296#64).toNat)]), (true, g4, [.int .u64 ((Wd.lo da % 4294967296#64).toNat), .int .u64 ((Wd.lo da / 4294967296#64).toNat), .int .u64 ((Wd.hi da % 4294967296#64).toNat), .int .u64 ((Wd.hi da / 4294967296#64).toNat)]), (true, g3, [.int .u64 ((Wd.hi 0#128).toNat), .int .u64 ((Wd.lo 0#128).toNat)]), (true, g2, [.int .u64 ((Wd.hi db).toNat), .int .u64 ((Wd.lo db).toNat)]), (true, g1, [.int .u64 ((Wd.hi da).toNat), .int .u64 ((Wd.lo da).toNat)])] []) H.drew ?_ ?_
              · refine ⟨?_, ?_, ?_, ?_, ?_, ?_, ?_, ?_, ?_, ?_, ?_, ?_, ?_, ?_, ?_, ?_, trivial⟩
                · show Sx.StepAt _ _ _ _ _ _ _ 0
                  intro L A w up hun hd F H
                  have F := Sx.Fr.to F (kv' := [(8, .int .i64 1)]) ⟨rfl, trivial⟩
                  refine Sx.step_on rfl (Sx.d_move F (Or.inl rfl) rfl) ?_
                  rintro xv w' ⟨hx, rfl⟩
                  exact ⟨(fun cv hc => hx.trans (Option.some.inj (Option.some.inj hc))), H⟩
                · show Sx.StepAt _ _ _ _ _ _ _ 1
                  intro L A w up hun hd F H
                  have F := Sx.Fr.to F (kv' := [(10, .int .i64 2)]) ⟨rfl, trivial⟩
                  refine Sx.step_on rfl (Sx.d_move F (Or.inl rfl) rfl) ?_
                  rintro xv w' ⟨hx, rfl⟩
                  exact ⟨(fun cv hc => hx.trans (Option.some.inj (Option.some.inj hc))), H⟩
                · show Sx.StepAt _ _ _ _ _ _ _ 2
                  intro L A w up hun hd F H
                  have F := Sx.Fr.to F (kv' := [(27, .int .i64 1), (28, .int .i64 2)]) ⟨rfl, rfl, trivial⟩
                  refine Sx.step_on rfl (Sx.d_bin (v := .int .i64 3) F rfl rfl rfl (Sx.i_addS (by decide))) ?_
                  rintro xv w' ⟨hx, rfl⟩
                  exact ⟨(fun cv hc => hx.trans (Option.some.inj (Option.some.inj hc))), H⟩
                · show Sx.StepAt _ _ _ _ _ _ _ 3
                  intro L A w up hun hd F H
                  have F := Sx.Fr.to F (kv' := [(7, .pointer (some ⟨g6, 0, none⟩)), (29, .int .i64 3)]) ⟨rfl, rfl, trivial⟩
                  refine Sx.step_on rfl (Sx.d_iaddr (v := .pointer (some ⟨g6, 3, none⟩)) F rfl rfl rfl (by kernel_rfl)) ?_
                  rintro xv w' ⟨hx, rfl⟩
                  exact ⟨(fun cv hc => hx.trans (Option.some.inj (Option.some.inj hc))), H⟩
                · show Sx.StepAt _ _ _ _ _ _ _ 4
                  intro L A w up hun hd F H
                  have F := Sx.Fr.to F (kv' := [(30, .pointer (some ⟨g6, 3, none⟩))]) ⟨rfl, trivial⟩
                  refine Sx.step_on rfl (Sx.d_load1 (i := 0) (v := .int .u64 ((n03 % 4294967296#64).toNat)) one_22 F H rfl rfl rfl rfl) ?_
                  rintro xv w' ⟨hx, rfl⟩
                  exact ⟨(fun cv hc => hx.trans (Option.some.inj (Option.some.inj hc))), H⟩
                · show Sx.StepAt _ _ _ _ _ _ _ 5
                  intro L A w up hun hd F H
                  have F := Sx.Fr.to F (kv' := [(8, .int .i64 1)]) ⟨rfl, trivial⟩
                  refine Sx.step_on rfl (Sx.d_move F (Or.inl rfl) rfl) ?_
                  rintro xv w' ⟨hx, rfl⟩
                  exact ⟨(fun cv hc => hx.trans (Option.some.inj (Option.some.inj hc))), H⟩
                · show Sx.StepAt _ _ _ _ _ _ _ 6
                  intro L A w up hun hd F H
                  have F := Sx.Fr.to F (kv' := [(5, .pointer (some ⟨g4, 0, none⟩)), (32, .int .i64 1)]) ⟨rfl, rfl, trivial⟩
                  refine Sx.step_on rfl (Sx.d_iaddr (v := .pointer (some ⟨g4, 1, none⟩)) F rfl rfl rfl (by kernel_rfl)) ?_
                  rintro xv w' ⟨hx, rfl⟩
                  exact ⟨(fun cv hc => hx.trans (Option.some.inj (Option.some.inj hc))), H⟩
                · show Sx.StepAt _ _ _ _ _ _ _ 7
                  intro L A w up hun hd F H
                  have F := Sx.Fr.to F (kv' := [(33, .pointer (some ⟨g4, 1, none⟩))]) ⟨rfl, trivial⟩
                  refine Sx.step_on rfl (Sx.d_load1 (i := 2) (v := .int .u64 ((Wd.lo da / 4294967296#64).toNat)) one_22 F H rfl rfl rfl rfl) ?_
                  rintro xv w' ⟨hx, rfl⟩
                  exact ⟨(fun cv hc => hx.trans (Option.some.inj (Option.some.inj hc))), H⟩
                · show Sx.StepAt _ _ _ _ _ _ _ 8
                  intro L A w up hun hd F H
                  have F := Sx.Fr.to F (kv' := [(10, .int .i64 2)]) ⟨rfl, trivial⟩
                  refine Sx.step_on rfl (Sx.d_move F (Or.inl rfl) rfl) ?_
                  rintro xv w' ⟨hx, rfl⟩
                  exact ⟨(fun cv hc => hx.trans (Option.some.inj (Option.some.inj hc))), H⟩
                · show Sx.StepAt _ _ _ _ _ _ _ 9
                  intro L A w up hun hd F H
                  have F := Sx.Fr.to F (kv' := [(6, .pointer (some ⟨g5, 0, none⟩)), (35, .int .i64 2)]) ⟨rfl, rfl, trivial⟩
                  refine Sx.step_on rfl (Sx.d_iaddr (v := .pointer (some ⟨g5, 2, none⟩)) F rfl rfl rfl (by kernel_rfl)) ?_
                  rintro xv w' ⟨hx, rfl⟩
                  exact ⟨(fun cv hc => hx.trans (Option.some.inj (Option.some.inj hc))), H⟩
                · show Sx.StepAt _ _ _ _ _ _ _ 10
                  intro L A w up hun hd F H
                  have F := Sx.Fr.to F (kv' := [(36, .pointer (some ⟨g5, 2, none⟩))]) ⟨rfl, trivial⟩
                  refine Sx.step_on rfl (Sx.d_load1 (i := 1) (v := .int .u64 ((Wd.hi db % 4294967296#64).toNat)) one_22 F H rfl rfl rfl rfl) ?_
                  rintro xv w' ⟨hx, rfl⟩
                  exact ⟨(fun cv hc => hx.trans (Option.some.inj (Option.some.inj hc))), H⟩
                · show Sx.StepAt _ _ _ _ _ _ _ 11
                  intro L A w up hun hd F H
                  have F := Sx.Fr.to F (kv' := [(34, .int .u64 ((Wd.lo da / 4294967296#64).toNat)), (37, .int .u64 ((Wd.hi db % 4294967296#64).toNat))]) ⟨rfl, rfl, trivial⟩
                  refine Sx.step_on rfl (Sx.d_bin (v := .int .u64 (((Wd.lo da / 4294967296#64) * (Wd.hi db % 4294967296#64)).toNat)) F rfl rfl rfl (Sx.i_mul64 (Wd.lo da / 4294967296#64) (Wd.hi db % 4294967296#64))) ?_
                  rintro xv w' ⟨hx, rfl⟩
                  exact ⟨(fun cv hc => hx.trans (Option.some.inj (Option.some.inj hc))), H⟩
                · show Sx.StepAt _ _ _ _ _ _ _ 12
                  intro L A w up hun hd F H
                  have F := Sx.Fr.to F (kv' := [(31, .int .u64 ((n03 % 4294967296#64).toNat)), (38, .int .u64 (((Wd.lo da / 4294967296#64) * (Wd.hi db % 4294967296#64)).toNat))]) ⟨rfl, rfl, trivial⟩
                  refine Sx.step_on rfl (Sx.d_bin (v := .int .u64 (((n03 % 4294967296#64) + ((Wd.lo da / 4294967296#64) * (Wd.hi db % 4294967296#64))).toNat)) F rfl rfl rfl (Sx.i_add64 (n03 % 4294967296#64) ((Wd.lo da / 4294967296#64) * (Wd.hi db % 4294967296#64)))) ?_
                  rintro xv w' ⟨hx, rfl⟩
                  exact ⟨(fun cv hc => hx.trans (Option.some.inj (Option.some.inj hc))), H⟩
                · show Sx.StepAt _ _ _ _ _ _ _ 13
                  intro L A w up hun hd F H
                  have F := Sx.Fr.to F (kv' := [(9, .int .u64 ((n11 / 4294967296#64).toNat))]) ⟨rfl, trivial⟩
                  refine Sx.step_on rfl (Sx.d_move F (Or.inl rfl) rfl) ?_
                  rintro xv w' ⟨hx, rfl⟩
                  exact ⟨(fun cv hc => hx.trans (Option.some.inj (Option.some.inj hc))), H⟩
                · show Sx.StepAt _ _ _ _ _ _ _ 14
                  intro L A w up hun hd F H
                  have F := Sx.Fr.to F (kv' := [(39, .int .u64 (((n03 % 4294967296#64) + ((Wd.lo da / 4294967296#64) * (Wd.hi db % 4294967296#64))).toNat)), (40, .int .u64 ((n11 / 4294967296#64).toNat))]) ⟨rfl, rfl, trivial⟩
                  refine Sx.step_on rfl (Sx.d_bin (v := .int .u64 ((((n03 % 4294967296#64) + ((Wd.lo da / 4294967296#64) * (Wd.hi db % 4294967296#64))) + (n11 / 4294967296#64)).toNat)) F rfl rfl rfl (Sx.i_add64 ((n03 % 4294967296#64) + ((Wd.lo da / 4294967296#64) * (Wd.hi db % 4294967296#64))) (n11 / 4294967296#64))) ?_
                  rintro xv w' ⟨hx, rfl⟩
                  exact ⟨(fun cv hc => hx.trans (Option.some.inj (Option.some.inj hc))), H⟩
                · show Sx.StepAt _ _ _ _ _ _ _ 15
                  intro L A w up hun hd F H
                  have F := Sx.Fr.to F (kv' := [(41, .int .u64 ((((n03 % 4294967296#64) + ((Wd.lo da / 4294967296#64) * (Wd.hi db % 4294967296#64))) + (n11 / 4294967296#64)).toNat))]) ⟨rfl, trivial⟩
                  refine Sx.step_on rfl (Sx.d_move F (Or.inr rfl) rfl) ?_
                  rintro xv w' ⟨hx, rfl⟩
                  exact ⟨(fun cv hc => hx.trans (Option.some.inj (Option.some.inj hc))), H⟩
              · intro L A w hL F H
                have F := Sx.Fr.to F (kv' := [(0, .agg #[.int .u64 ((Wd.hi da).toNat), .int .u64 ((Wd.lo da).toNat)]), (1, .agg #[.int .u64 ((Wd.hi db).toNat), .int .u64 ((Wd.lo db).toNat)]), (2, .pointer (some ⟨g1, 0, none⟩)), (3, .pointer (some ⟨g2, 0, none⟩)), (4, .pointer (some ⟨g3, 0, none⟩)), (12, .agg #[.int .u64 ((Wd.hi da).toNat), .int .u64 ((Wd.lo da).toNat)]), (13, .agg #[.int .u64 ((Wd.lo da % 4294967296#64).toNat), .int .u64 ((Wd.lo da / 4294967296#64).toNat), .int .u64 ((Wd.hi da % 4294967296#64).toNat), .int .u64 ((Wd.hi da / 4294967296#64).toNat)]), (5, .pointer (some ⟨g4, 0, none⟩)), (14, .agg #[.int .u64 ((Wd.hi db).toNat), .int .u64 ((Wd.lo db).toNat)]), (15, .agg #[.int .u64 ((Wd.lo db % 4294967296#64).toNat), .int .u64 ((Wd.lo db / 4294967296#64).toNat), .int .u64 ((Wd.hi db % 4294967296#64).toNat), .int .u64 ((Wd.hi db / 4294967296#64).toNat)]), (6, .pointer (some ⟨g5, 0, none⟩)), (16, .agg #[.int .u64 0, .int .u64 0, .int .u64 0, .int .u64 0]), (7, .pointer (some ⟨g6, 0, none⟩)), (8, .int .i64 1), (17, .int .i64 1), (18, .bool true), (9, .int .u64 ((n11 / 4294967296#64).toNat)), (10, .int .i64 2), (21, .int .i64 1), (22, .int .i64 2), (23, .int .i64 3), (24, .bool true), (42, .int .i64 1), (43, .int .i64 1), (44, .int .i64 2), (45, .int .u64 n11.toNat), (46, .int .u64 ((n11 % 4294967296#64).toNat)), (47, .pointer (some ⟨g6, 2, none⟩)), (48, .int .u64 n11.toNat), (49, .int .u64 ((n11 / 4294967296#64).toNat)), (25, .int .i64 1), (26, .int .i64 2), (19, .int .i64 0), (20, .int .i64 1), (11, .int .u64 ((((n03 % 4294967296#64) + ((Wd.lo da / 4294967296#64) * (Wd.hi db % 4294967296#64))) + (n11 / 4294967296#64)).toNat))]) ⟨rfl, rfl, rfl, rfl, rfl, rfl, rfl, rfl, rfl, rfl, rfl, rfl, rfl, rfl, rfl, rfl, rfl, rfl, rfl, rfl, rfl, rfl, rfl, rfl, rfl, rfl, rfl, rfl, rfl, rfl, rfl, rfl, rfl, rfl, rfl, trivial⟩
                obtain ⟨n12, hn12⟩ : ∃ q, (((n03 % 4294967296#64) + ((Wd.lo da / 4294967296#64) * (Wd.hi db % 4294967296#64))) + (n11 / 4294967296#64)) = q := ⟨_, rfl⟩
                rw [hn12] at F
                refine hK52 _ _ ?_
                refine Sx.seq (fun K53 hK53 => ?_)
                refine Sx.plain ?_
                refine Sx.sv F (Sx.d_move F (Or.inl rfl) rfl) (Sx.wanted_none rfl _) rfl (by decide) (fun A F => ?_)
                refine Sx.sv F (Sx.d_move F (Or.inl rfl) rfl) (Sx.wanted_none rfl _) rfl (by decide) (fun A F => ?_)
                refine Sx.sv F (Sx.d_bin (v := .int .i64 3) F rfl rfl rfl (Sx.i_addS (by decide))) (Sx.wanted_none rfl _) rfl (by decide) (fun A F => ?_)
                refine Sx.sv F (Sx.d_move F (Or.inl rfl) rfl) (Sx.wanted_none rfl _) rfl (by decide) (fun A F => ?_)
                refine Sx.sv F (Sx.d_bin (v := .int .u64 ((n12 % 4294967296#64).toNat)) F rfl rfl rfl (Sx.i_rem64 n12 4294967296#64 (by decide))) (Sx.wanted_none rfl _) rfl (by decide) (fun A F => ?_)
                refine Sx.sv F (Sx.d_iaddr (v := .pointer (some ⟨g6, 3, none⟩)) F rfl rfl rfl (by kernel_rfl)) (Sx.wanted_none rfl _) rfl (by decide) (fun A F => ?_)
                refine Sx.ss F (Sx.d_store (i := 0) (xs := [.int .u64 ((n12 % 4294967296#64).toNat)]) (us := [.int .u64 ((n00 % 4294967296#64).toNat), .int .u64 ((n10 % 4294967296#64).toNat), .int .u64 ((n11 % 4294967296#64).toNat), .int .u64 ((n12 % 4294967296#64).toNat)]) sz_22 F H rfl rfl rfl rfl rfl rfl rfl (Nat.le_of_ble_eq_true rfl) rfl) (Sx.wanted_none rfl _) rfl (fun A w F (H : Sx.Own w0 _ [(true, g6, [.int .u64 ((n00 % 4294967296#64).toNat), .int .u64 ((n10 % 4294967296#64).toNat), .int .u64 ((n11 % 4294967296#64).toNat), .int .u64 ((n12 % 4294967296#64).toNat)]), (true, g5, [.int .u64 ((Wd.lo db % 4294967296#64).toNat), .int .u64 ((Wd.lo db / 4294967296#64).toNat), .int .u64 ((Wd.hi db % 4294967296#64).toNat), .int .u64 ((Wd.hi db / 4294967296#64).toNat)]), (true, g4, [.int .u64 ((Wd.lo da % 4294967296#64).toNat), .int .u64 ((Wd.lo da / 4294967296#64).toNat), .int .u64 ((Wd.hi da % 4294967296#64).toNat), .int .u64 ((Wd.hi da / 4294967296#64).toNat)]), (true, g3, [.int .u64 ((Wd.hi 0#128).toNat), .int .u64 ((Wd.lo 0#128).toNat)]), (true, g2, [.int .u64 ((Wd.hi db).toNat), .int .u64 ((Wd.lo db).toNat)]), (true, g1, [.int .u64 ((Wd.hi da).toNat), .int .u64 ((Wd.lo da).toNat)])] []) => ?_)
                refine Sx.nil ?_
                refine hK53 _ _ ?_
                refine Sx.plain ?_
                refine Sx.sv F (Sx.d_move F (Or.inl rfl) rfl) (Sx.wanted_none rfl _) rfl (by decide) (fun A F => ?_)
                refine Sx.sv F (Sx.d_bin (v := .int .u64 ((n12 / 4294967296#64).toNat)) F rfl rfl rfl (Sx.i_quo64 n12 4294967296#64 (by decide))) (Sx.wanted_none rfl _) rfl (by decide) (fun A F => ?_)
                refine Sx.sv F (Sx.d_move F (Or.inr rfl) rfl) (Sx.wanted_none rfl _) rfl (by decide) (fun A F => ?_)
                refine Sx.nil ?_
                refine hK51 _ _ ?_
                refine Sx.plain ?_
                refine Sx.sv F (Sx.d_move F (Or.inl rfl) rfl) (Sx.wanted_none rfl _) rfl (by decide) (fun A F => ?_)
                refine Sx.sv F (Sx.d_bin (v := .int .i64 3) F rfl rfl rfl (Sx.i_addS (by decide))) (Sx.wanted_none rfl _) rfl (by decide) (fun A F => ?_)
                refine Sx.sv F (Sx.d_move F (Or.inr rfl) rfl) (Sx.wanted_none rfl _) rfl (by decide) (fun A F => ?_)
                refine Sx.nil ?_
                try dsimp only [Exit.then]
                rw [rounds_succ]
                refine Sx.seq (fun K54 hK54 => ?_)
                refine Sx.seq (fun K55 hK55 => ?_)
                refine Sx.plain ?_
                refine Sx.sv F (Sx.d_move F (Or.inl rfl) rfl) (Sx.wanted_none rfl _) rfl (by decide) (fun A F => ?_)
                refine Sx.sv F (Sx.d_move F (Or.inl rfl) rfl) (Sx.wanted_none rfl _) rfl (by decide) (fun A F => ?_)
                refine Sx.sv F (Sx.d_bin (v := .int .i64 4) F rfl rfl rfl (Sx.i_addS (by decide))) (Sx.wanted_none rfl _) rfl (by decide) (fun A F => ?_)
                refine Sx.sv F (Sx.d_bin (v := .bool false) F rfl rfl rfl (Sx.i_lt (by decide))) (Sx.wanted_none rfl _) rfl (by decide) (fun A F => ?_)
                refine Sx.nil ?_
                refine hK55 _ _ ?_
                refine Sx.condF F rfl ?_
                refine wp_exit ?_
                try dsimp only [Exit.then, Exit.jump]
                refine Sx.exit_here ?_
                refine hK36 _ _ ?_
                refine Sx.plain ?_
                refine Sx.sv F (Sx.d_move F (Or.inl rfl) rfl) (Sx.wanted_none rfl _) rfl (by decide) (fun A F => ?_)
                refine Sx.sv F (Sx.d_bin (v := .int .i64 2) F rfl rfl rfl (Sx.i_addS (by decide))) (Sx.wanted_none rfl _) rfl (by decide) (fun A F => ?_)
                refine Sx.sv F (Sx.d_move F (Or.inr rfl) rfl) (Sx.wanted_none rfl _) rfl (by decide) (fun A F => ?_)
                refine Sx.nil ?_
                try dsimp only [Exit.then]
                rw [rounds_succ]
                refine Sx.seq (fun K56 hK56 => ?_)
                refine Sx.seq (fun K57 hK57 => ?_)
                refine Sx.plain ?_
                refine Sx.sv F (Sx.d_move F (Or.inl rfl) rfl) (Sx.wanted_none rfl _) rfl (by decide) (fun A F => ?_)
                refine Sx.sv F (Sx.d_bin (v := .bool true) F rfl rfl rfl (Sx.i_lt (by decide))) (Sx.wanted_none rfl _) rfl (by decide) (fun A F => ?_)
                refine Sx.nil ?_
                refine hK57 _ _ ?_
                refine Sx.condT F rfl ?_
                refine wp_skip ?_
                refine hK56 _ _ ?_
                refine Sx.seq (fun K58 hK58 => ?_)
                refine wp_block ?_
                refine Sx.seq (fun K59 hK59 => ?_)
                refine Sx.plain ?_
                refine Sx.sv F (Sx.d_move F (Or.inr rfl) rfl) (Sx.wanted_none rfl _) rfl (by decide) (fun A F => ?_)
                refine Sx.nil ?_
                refine hK59 _ _ ?_
                refine Sx.seq (fun K60 hK60 => ?_)
                refine Sx.plain ?_
                refine Sx.sv F (Sx.d_move F (Or.inr rfl) rfl) (Sx.wanted_none rfl _) rfl (by decide) (fun A F => ?_)
                refine Sx.nil ?_
                refine hK60 _ _ ?_
                refine wp_block ?_
                refine wp_loop_rounds 5 ?_
                try dsimp only [Exit.then]
                rw [rounds_succ]
                refine Sx.seq (fun K61 hK61 => ?_)
                refine Sx.seq (fun K62 hK62 => ?_)
                refine Sx.plain ?_
                refine Sx.sv F (Sx.d_move F (Or.inl rfl) rfl) (Sx.wanted_none rfl _) rfl (by decide) (fun A F => ?_)
                refine Sx.sv F (Sx.d_move F (Or.inl rfl) rfl) (Sx.wanted_none rfl _) rfl (by decide) (fun A F => ?_)
                refine Sx.sv F (Sx.d_bin (v := .int .i64 2) F rfl rfl rfl (Sx.i_addS (by decide))) (Sx.wanted_none rfl _) rfl (by decide) (fun A F => ?_)
                refine Sx.sv F (Sx.d_bin (v := .bool true) F rfl rfl rfl (Sx.i_lt (by decide))) (Sx.wanted_none rfl _) rfl (by decide) (fun A F => ?_)
                refine Sx.nil ?_
                refine hK62 _ _ ?_
                refine Sx.condT F rfl ?_
                refine wp_skip ?_
                refine hK61 _ _ ?_
                refine Sx.seq (fun K63 hK63 => ?_)
                refine wp_block ?_
                refine Sx.seq (fun K64 hK64 => ?_)
                have F := Sx.Fr.to F (kv' := [(0, .agg #[.int .u64 ((Wd.hi da).toNat), .int .u64 ((Wd.lo da).toNat)]), (1, .agg #[.int .u64 ((Wd.hi db).toNat), .int .u64 ((Wd.lo db).toNat)]), (2, .pointer (some ⟨g1, 0, none⟩)), (3, .pointer (some ⟨g2, 0, none⟩)), (4, .pointer (some ⟨g3, 0, none⟩)), (12, .agg #[.int .u64 ((Wd.hi da).toNat), .int .u64 ((Wd.lo da).toNat)]), (13, .agg #[.int .u64 ((Wd.lo da % 4294967296#64).toNat), .int .u64 ((Wd.lo da / 4294967296#64).toNat), .int .u64 ((Wd.hi da % 4294967296#64).toNat), .int .u64 ((Wd.hi da / 4294967296#64).toNat)]), (5, .pointer (some ⟨g4, 0, none⟩)), (14, .agg #[.int .u64 ((Wd.hi db).toNat), .int .u64 ((Wd.lo db).toNat)]), (15, .agg #[.int .u64 ((Wd.lo db % 4294967296#64).toNat), .int .u64 ((Wd.lo db / 4294967296#64).toNat), .int .u64 ((Wd.hi db % 4294967296#64).toNat), .int .u64 ((Wd.hi db / 4294967296#64).toNat)]), (6, .pointer (some ⟨g5, 0, none⟩)), (16, .agg #[.int .u64 0, .int .u64 0, .int .u64 0, .int .u64 0]), (7, .pointer (some ⟨g6, 0, none⟩)), (8, .int .i64 2), (17, .int .i64 2), (18, .bool true), (9, .int .u64 0), (10, .int .i64 0), (21, .int .i64 2), (22, .int .i64 0), (23, .int .i64 2), (24, .bool true), (42, .int .i64 1), (43, .int .i64 2), (44, .int .i64 3), (45, .int .u64 n12.toNat), (46, .int .u64 ((n12 % 4294967296#64).toNat)), (47, .pointer (some ⟨g6, 3, none⟩)), (48, .int .u64 n12.toNat), (49, .int .u64 ((n12 / 4294967296#64).toNat)), (25, .int .i64 2), (26, .int .i64 3), (19, .int .i64 1), (20, .int .i64 2)]) ⟨rfl, rfl, rfl, rfl, rfl, rfl, rfl, rfl, rfl, rfl, rfl, rfl, rfl, rfl, rfl, rfl, rfl, rfl, rfl, rfl, rfl, rfl, rfl, rfl, rfl, rfl, rfl, rfl, rfl, rfl, rfl, rfl, rfl, rfl, trivial⟩
                refine Sx.drawn F (by kernel_rfl) (by kernel_rfl) (by kernel_rfl) [some (.int .i64 2), some (.int .i64 0), some (.int .i64 2), some (.pointer (some ⟨g6, 2, none⟩)), some (.int .u64 ((n11 % 4294967296#64).toNat)), some (.int .i64 2), some (.pointer (some ⟨g4, 2, none⟩)), some (.int .u64 ((Wd.hi da % 4294967296#64).toNat)), some (.int .i64 0), some (.pointer (some ⟨g5, 0, none⟩)), some (.int .u64 ((Wd.lo db % 4294967296#64).toNat)), some (.int .u64 (((Wd.hi da % 4294967296#64) * (Wd.lo db % 4294967296#64)).toNat)), some (.int .u64 (((n11 % 4294967296#64) + ((Wd.hi da % 4294967296#64) * (Wd.lo db % 4294967296#64))).toNat)), some (.int .u64 0), some (.int .u64 ((((n11 % 4294967296#64) + ((Wd.hi da % 4294967296#64) * (Wd.lo db % 4294967296#64))) + 0#64).toNat)), some (.int .u64 ((((n11 % 4294967296#64) + ((Wd.hi da % 4294967296#64) * (Wd.lo db % 4294967296#64))) + 0#64).toNat))] (fun L A w => Sx.Own w0 w [(true, g6, [.int .u64 ((n00 % 4294967296#64).toNat), .int .u64 ((n10 % 4294967296#64).toNat), .int .u64 ((n11 % 4294967296#64).toNat), .int .u64 ((n12 % 4294967296#64).toNat)]), (true, g5, [.int .u64 ((Wd.lo db % 4294967296#64).toNat), .int .u64 ((Wd.lo db / 4294967296#64).toNat), .int .u64 ((Wd.hi db % 4294967296#64).toNat), .int .u64 ((Wd.hi db / 4294967296#64).toNat)]), (true, g4, [.int .u64 ((Wd.lo da % 4294967296#64).toNat), .int .u64 ((Wd.lo da / 4294967296#64).toNat), .int .u64 ((Wd.hi da % 4294967296#64).toNat), .int .u64 ((Wd.hi da / 4294967296#64).toNat)]), (true, g3, [.int .u64 ((Wd.hi 0#128).toNat), .int .u64 ((Wd.lo 0#128).toNat)]), (true, g2, [.int .u64 ((Wd.hi db).toNat), .int .u64 ((Wd.lo db).toNat)]), (true, g1, [.int .u64 ((Wd.hi da).toNat), .int .u64 ((Wd.lo da).toNat)])] []) H.drew ?_ ?_
                · refine ⟨?_, ?_, ?_, ?_, ?_, ?_, ?_, ?_, ?_, ?_, ?_, ?_, ?_, ?_, ?_, ?_, trivial⟩
                  · show Sx.StepAt _ _ _ _ _ _ _ 0
                    intro L A w up hun hd F H
                    have F := Sx.Fr.to F (kv' := [(8, .int .i64 2)]) ⟨rfl, trivial⟩
                    refine Sx.step_on rfl (Sx.d_move F (Or.inl rfl) rfl) ?_
                    rintro xv w' ⟨hx, rfl⟩
                    exact ⟨(fun cv hc => hx.trans (Option.some.inj (Option.some.inj hc))), H⟩
                  · show Sx.StepAt _ _ _ _ _ _ _ 1
                    intro L A w up hun hd F H
                    have F := Sx.Fr.to F (kv' := [(10, .int .i64 0)]) ⟨rfl, trivial⟩
                    refine Sx.step_on rfl (Sx.d_move F (Or.inl rfl) rfl) ?_
                    rintro xv w' ⟨hx, rfl⟩
                    exact ⟨(fun cv hc => hx.trans (Option.some.inj (Option.some.inj hc))), H⟩
                  · show Sx.StepAt _ _ _ _ _ _ _ 2
                    intro L A w up hun hd F H
                    have F := Sx.Fr.to F (kv' := [(27, .int .i64 2), (28, .int .i64 0)]) ⟨rfl, rfl, trivial⟩
                    refine Sx.step_on rfl (Sx.d_bin (v := .int .i64 2) F rfl rfl rfl (Sx.i_addS (by decide))) ?_
                    rintro xv w' ⟨hx, rfl⟩
                    exact ⟨(fun cv hc => hx.trans (Option.some.inj (Option.some.inj hc))), H⟩
                  · show Sx.StepAt _ _ _ _ _ _ _ 3
                    intro L A w up hun hd F H
                    have F := Sx.Fr.to F (kv' := [(7, .pointer (some ⟨g6, 0, none⟩)), (29, .int .i64 2)]) ⟨rfl, rfl, trivial⟩
                    refine Sx.step_on rfl (Sx.d_iaddr (v := .pointer (some ⟨g6, 2, none⟩)) F rfl rfl rfl (by kernel_rfl)) ?_
                    rintro xv w' ⟨hx, rfl⟩
                    exact ⟨(fun cv hc => hx.trans (Option.some.inj (Option.some.inj hc))), H⟩
                  · show Sx.StepAt _ _ _ _ _ _ _ 4
                    intro L A w up hun hd F H
                    have F := Sx.Fr.to F (kv' := [(30, .pointer (some ⟨g6, 2, none⟩))]) ⟨rfl, trivial⟩
                    refine Sx.step_on rfl (Sx.d_load1 (i := 0) (v := .int .u64 ((n11 % 4294967296#64).toNat)) one_22 F H rfl rfl rfl rfl) ?_
                    rintro xv w' ⟨hx, rfl⟩
                    exact ⟨(fun cv hc => hx.trans (Option.some.inj (Option.some.inj hc))), H⟩
                  · show Sx.StepAt _ _ _ _ _ _ _ 5
                    intro L A w up hun hd F H
                    have F := Sx.Fr.to F (kv' := [(8, .int .i64 2)]) ⟨rfl, trivial⟩
                    refine Sx.step_on rfl (Sx.d_move F (Or.inl rfl) rfl) ?_
                    rintro xv w' ⟨hx, rfl⟩
                    exact ⟨(fun cv hc => hx.trans (Option.some.inj (Option.some.inj hc))), H⟩
                  · show Sx.StepAt _ _ _ _ _ _ _ 6
                    intro L A w up hun hd F H
                    have F := Sx.Fr.to F (kv' := [(5, .pointer (some ⟨g4, 0, none⟩)), (32, .int .i64 2)]) ⟨rfl, rfl, trivial⟩
                    refine Sx.step_on rfl (Sx.d_iaddr (v := .pointer (some ⟨g4, 2, none⟩)) F rfl rfl rfl (by kernel_rfl)) ?_
                    rintro xv w' ⟨hx, rfl⟩
                    exact ⟨(fun cv hc => hx.trans (Option.some.inj (Option.some.inj hc))), H⟩
                  · show Sx.StepAt _ _ _ _ _ _ _ 7
                    intro L A w up hun hd F H
                    have F := Sx.Fr.to F (kv' := [(33, .pointer (some ⟨g4, 2, none⟩))]) ⟨rfl, trivial⟩
                    refine Sx.step_on rfl (Sx.d_load1 (i := 2) (v := .int .u64 ((Wd.hi da % 4294967296#64).toNat)) one_22 F H rfl rfl rfl rfl) ?_
                    rintro xv w' ⟨hx, rfl⟩
                    exact ⟨(fun cv hc => hx.trans (Option.some.inj (Option.some.inj hc))), H⟩
                  · show Sx.StepAt _ _ _ _ _ _ _ 8
                    intro L A w up hun hd F H
                    have F := Sx.Fr.to F (kv' := [(10, .int .i64 0)]) ⟨rfl, trivial⟩
                    refine Sx.step_on rfl (Sx.d_move F (Or.inl rfl) rfl) ?_
                    rintro xv w' ⟨hx, rfl⟩
                    exact ⟨(fun cv hc => hx.trans (Option.some.inj (Option.some.inj hc))), H⟩
                  · show Sx.StepAt _ _ _ _ _ _ _ 9
                    intro L A w up hun hd F H
                    have F := Sx.Fr.to F (kv' := [(6, .pointer (some ⟨g5, 0, none⟩)), (35, .int .i64 0)]) ⟨rfl, rfl, trivial⟩
                    refine Sx.step_on rfl (Sx.d_iaddr (v := .pointer (some ⟨g5, 0, none⟩)) F rfl rfl rfl (by kernel_rfl)) ?_
                    rintro xv w' ⟨hx, rfl⟩
                    exact ⟨(fun cv hc => hx.trans (Option.some.inj (Option.some.inj hc))), H⟩
                  · show Sx.StepAt _ _ _ _ _ _ _ 10
                    intro L A w up hun hd F H
                    have F := Sx.Fr.to F (kv' := [(36, .pointer (some ⟨g5, 0, none⟩))]) ⟨rfl, trivial⟩
                    refine Sx.step_on rfl (Sx.d_load1 (i := 1) (v := .int .u64 ((Wd.lo db % 4294967296#64).toNat)) one_22 F H rfl rfl rfl rfl) ?_
                    rintro xv w' ⟨hx, rfl⟩
                    exact ⟨(fun cv hc => hx.trans (Option.some.inj (Option.some.inj hc))), H⟩
                  · show Sx.StepAt _ _ _ _ _ _ _ 11
                    intro L A w up hun hd F H
                    have F := Sx.Fr.to F (kv' := [(34, .int .u64 ((Wd.hi da % 4294967296#64).toNat)), (37, .int .u64 ((Wd.lo db % 4294967296#64).toNat))]) ⟨rfl, rfl, trivial⟩
                    refine Sx.step_on rfl (Sx.d_bin (v := .int .u64 (((Wd.hi da % 4294967296#64) * (Wd.lo db % 4294967296#64)).toNat)) F rfl rfl rfl (Sx.i_mul64 (Wd.hi da % 4294967296#64) (Wd.lo db % 4294967296#64))) ?_
                    rintro xv w' ⟨hx, rfl⟩
                    exact ⟨(fun cv hc => hx.trans (Option.some.inj (Option.some.inj hc))), H⟩
                  · show Sx.StepAt _ _ _ _ _ _ _ 12
                    intro L A w up hun hd F H
                    have F := Sx.Fr.to F (kv' := [(31, .int .u64 ((n11 % 4294967296#64).toNat)), (38, .int .u64 (((Wd.hi da % 4294967296#64) * (Wd.lo db % 4294967296#64)).toNat))]) ⟨rfl, rfl, trivial⟩
                    refine Sx.step_on rfl (Sx.d_bin (v := .int .u64 (((n11 % 4294967296#64) + ((Wd.hi da % 4294967296#64) * (Wd.lo db % 4294967296#64))).toNat)) F rfl rfl rfl (Sx.i_add64 (n11 % 4294967296#64) ((Wd.hi da % 4294967296#64) * (Wd.lo db % 4294967296#64)))) ?_
                    rintro xv w' ⟨hx, rfl⟩
                    exact ⟨(fun cv hc => hx.trans (Option.some.inj (Option.some.inj hc))), H⟩
                  · show Sx.StepAt _ _ _ _ _ _ _ 13
                    intro L A w up hun hd F H
                    have F := Sx.Fr.to F (kv' := [(9, .int .u64 0)]) ⟨rfl, trivial⟩
                    refine Sx.step_on rfl (Sx.d_move F (Or.inl rfl) rfl) ?_
                    rintro xv w' ⟨hx, rfl⟩
                    exact ⟨(fun cv hc => hx.trans (Option.some.inj (Option.some.inj hc))), H⟩
                  · show Sx.StepAt _ _ _ _ _ _ _ 14
                    intro L A w up hun hd F H
                    have F := Sx.Fr.to F (kv' := [(39, .int .u64 (((n11 % 4294967296#64) + ((Wd.hi da % 4294967296#64) * (Wd.lo db % 4294967296#64))).toNat)), (40, .int .u64 0)]) ⟨rfl, rfl, trivial⟩
                    refine Sx.step_on rfl (Sx.d_bin (v := .int .u64 ((((n11 % 4294967296#64) + ((Wd.hi da % 4294967296#64) * (Wd.lo db % 4294967296#64))) + 0#64).toNat)) F rfl rfl rfl (Sx.i_add64 ((n11 % 4294967296#64) + ((Wd.hi da % 4294967296#64) * (Wd.lo db % 4294967296#64))) 0#64)) ?_
                    rintro xv w' ⟨hx, rfl⟩
                    exact ⟨(fun cv hc => hx.trans (Option.some.inj (Option.some.inj hc))), H⟩
                  · show Sx.StepAt _ _ _ _ _ _ _ 15
                    intro L A w up hun hd F H
                    have F := Sx.Fr.to F (kv' := [(41, .int .u64 ((((n11 % 4294967296#64) + ((Wd.hi da % 4294967296#64) * (Wd.lo db % 4294967296#64))) + 0#64).toNat))]) ⟨rfl, trivial⟩
                    refine Sx.step_on rfl (Sx.d_move F (Or.inr rfl) rfl) ?_
                    rintro xv w' ⟨hx, rfl⟩
                    exact ⟨(fun cv hc => hx.trans (Option.some.inj (Option.some.inj hc))), H⟩
                · intro L A w hL F H
                  have F := Sx.Fr.to F (kv' := [(0, .agg #[.int .u64 ((Wd.hi da).toNat), .int .u64 ((Wd.lo da).toNat)]), (1, .agg #[.int .u64 ((Wd.hi db).toNat), .int .u64 ((Wd.lo db).toNat)]), (2, .pointer (some ⟨g1, 0, none⟩)), (3, .pointer (some ⟨g2, 0, none⟩)), (4, .pointer (some ⟨g3, 0, none⟩)), (12, .agg #[.int .u64 ((Wd.hi da).toNat), .int .u64 ((Wd.lo da).toNat)]), (13, .agg #[.int .u64 ((Wd.lo da % 4294967296#64).toNat), .int .u64 ((Wd.lo da / 4294967296#64).toNat), .int .u64 ((Wd.hi da % 4294967296#64).toNat), .int .u64 ((Wd.hi da / 4294967296#64).toNat)]), (5, .pointer (some ⟨g4, 0, none⟩)), (14, .agg #[.int .u64 ((Wd.hi db).toNat), .int .u64 ((Wd.lo db).toNat)]), (15, .agg #[.int .u64 ((Wd.lo db % 4294967296#64).toNat), .int .u64 ((Wd.lo db / 4294967296#64).toNat), .int .u64 ((Wd.hi db % 4294967296#64).toNat), .int .u64 ((Wd.hi db / 4294967296#64).toNat)]), (6, .pointer (some ⟨g5, 0, none⟩)), (16, .agg #[.int .u64 0, .int .u64 0, .int .u64 0, .int .u64 0]), (7, .pointer (some ⟨g6, 0, none⟩)), (8, .int .i64 2), (17, .int .i64 2), (18, .bool true), (9, .int .u64 0), (10, .int .i64 0), (21, .int .i64 2), (22, .int .i64 0), (23, .int .i64 2), (24, .bool true), (42, .int .i64 1), (43, .int .i64 2), (44, .int .i64 3), (45, .int .u64 n12.toNat), (46, .int .u64 ((n12 % 4294967296#64).toNat)), (47, .pointer (some ⟨g6, 3, none⟩)), (48, .int .u64 n12.toNat), (49, .int .u64 ((n12 / 4294967296#64).toNat)), (25, .int .i64 2), (26, .int .i64 3), (19, .int .i64 1), (20, .int .i64 2), (11, .int .u64 ((((n11 % 4294967296#64) + ((Wd.hi da % 4294967296#64) * (Wd.lo db % 4294967296#64))) + 0#64).toNat))]) ⟨rfl, rfl, rfl, rfl, rfl, rfl, rfl, rfl, rfl, rfl, rfl, rfl, rfl, rfl, rfl, rfl, rfl, rfl, rfl, rfl, rfl, rfl, rfl, rfl, rfl, rfl, rfl, rfl, rfl, rfl, rfl, rfl, rfl, rfl, rfl, trivial⟩
                  obtain ⟨n20, hn20⟩ : ∃ q, (((n11 % 4294967296#64) + ((Wd.hi da % 4294967296#64) * (Wd.lo db % 4294967296#64))) + 0#64) = q := ⟨_, rfl⟩
                  rw [hn20] at F
                  refine hK64 _ _ ?_
                  refine Sx.seq (fun K65 hK65 => ?_)
                  refine Sx.plain ?_
                  refine Sx.sv F (Sx.d_move F (Or.inl rfl) rfl) (Sx.wanted_none rfl _) rfl (by decide) (fun A F => ?_)
                  refine Sx.sv F (Sx.d_move F (Or.inl rfl) rfl) (Sx.wanted_none rfl _) rfl (by decide) (fun A F => ?_)
                  refine Sx.sv F (Sx.d_bin (v := .int .i64 2) F rfl rfl rfl (Sx.i_addS (by decide))) (Sx.wanted_none rfl _) rfl (by decide) (fun A F => ?_)
                  refine Sx.sv F (Sx.d_move F (Or.inl rfl) rfl) (Sx.wanted_none rfl _) rfl (by decide) (fun A F => ?_)
                  refine Sx.sv F (Sx.d_bin (v := .int .u64 ((n20 % 4294967296#64).toNat)) F rfl rfl rfl (Sx.i_rem64 n20 4294967296#64 (by decide))) (Sx.wanted_none rfl _) rfl (by decide) (fun A F => ?_)
                  refine Sx.sv F (Sx.d_iaddr (v := .pointer (some ⟨g6, 2, none⟩)) F rfl rfl rfl (by kernel_rfl)) (Sx.wanted_none rfl _) rfl (by decide) (fun A F => ?_)
                  refine Sx.ss F (Sx.d_store (i := 0) (xs := [.int .u64 ((n20 % 4294967296#64).toNat)]) (us := [.int .u64 ((n00 % 4294967296#64).toNat), .int .u64 ((n10 % 4294967296#64).toNat), .int .u64 ((n20 % 4294967296#64).toNat), .int .u64 ((n12 % 4294967296#64).toNat)]) sz_22 F H rfl rfl rfl rfl rfl rfl rfl (Nat.le_of_ble_eq_true rfl) rfl) (Sx.wanted_none rfl _) rfl (fun A w F (H : Sx.Own w0 _ [(true, g6, [.int .u64 ((n00 % 4294967296#64).toNat), .int .u64 ((n10 % 4294967296#64).toNat), .int .u64 ((n20 % 4294967296#64).toNat), .int .u64 ((n12 % 4294967296#64).toNat)]), (true, g5, [.int .u64 ((Wd.lo db % 4294967296#64).toNat), .int .u64 ((Wd.lo db / 4294967296#64).toNat), .int .u64 ((Wd.hi db % 4294967296#64).toNat), .int .u64 ((Wd.hi db / 4294967296#64).toNat)]), (true, g4, [.int .u64 ((Wd.lo da % 4294967296#64).toNat), .int .u64 ((Wd.lo da / 4294967296#64).toNat), .int .u64 ((Wd.hi da % 4294967296#64).toNat), .int .u64 ((Wd.hi da / 4294967296#64).toNat)]), (true, g3, [.int .u64 ((Wd.hi 0#128).toNat), .int .u64 ((Wd.lo 0#128).toNat)]), (true, g2, [.int .u64 ((Wd.hi db).toNat), .int .u64 ((Wd.lo db).toNat)]), (true, g1, [.int .u64 ((Wd.hi da).toNat), .int .u64 ((Wd.lo da).toNat)])] []) => ?_)
                  refine Sx.nil ?_
                  refine hK65 _ _ ?_
                  refine Sx.plain ?_
                  refine Sx.sv F (Sx.d_move F (Or.inl rfl) rfl) (Sx.wanted_none rfl _) rfl (by decide) (fun A F => ?_)
                  refine Sx.sv F (Sx.d_bin (v := .int .u64 ((n20 / 4294967296#64).toNat)) F rfl rfl rfl (Sx.i_quo64 n20 4294967296#64 (by decide))) (Sx.wanted_none rfl _) rfl (by decide) (fun A F => ?_)
                  refine Sx.sv F (Sx.d_move F (Or.inr rfl) rfl) (Sx.wanted_none rfl _) rfl (by decide) (fun A F => ?_)
                  refine Sx.nil ?_
                  refine hK63 _ _ ?_
                  refine Sx.plain ?_
                  refine Sx.sv F (Sx.d_move F (Or.inl rfl) rfl) (Sx.wanted_none rfl _) rfl (by decide) (fun A F => ?_)
                  refine Sx.sv F (Sx.d_bin (v := .int .i64 1) F rfl rfl rfl (Sx.i_addS (by decide))) (Sx.wanted_none rfl _) rfl (by decide) (fun A F => ?_)
                  refine Sx.sv F (Sx.d_move F (Or.inr rfl) rfl) (Sx.wanted_none rfl _) rfl (by decide) (fun A F => ?_)
                  refine Sx.nil ?_
                  try dsimp only [Exit.then]
                  rw [rounds_succ]
                  refine Sx.seq (fun K66 hK66 => ?_)
                  refine Sx.seq (fun K67 hK67 => ?_)
                  refine Sx.plain ?_
                  refine Sx.sv F (Sx.d_move F (Or.inl rfl) rfl) (Sx.wanted_none rfl _) rfl (by decide) (fun A F => ?_)
                  refine Sx.sv F (Sx.d_move F (Or.inl rfl) rfl) (Sx.wanted_none rfl _) rfl (by decide) (fun A F => ?_)
                  refine Sx.sv F (Sx.d_bin (v := .int .i64 3) F rfl rfl rfl (Sx.i_addS (by decide))) (Sx.wanted_none rfl _) rfl (by decide) (fun A F => ?_)
                  refine Sx.sv F (Sx.d_bin (v := .bool true) F rfl rfl rfl (Sx.i_lt (by decide))) (Sx.wanted_none rfl _) rfl (by decide) (fun A F => ?_)
                  refine Sx.nil ?_
                  refine hK67 _ _ ?_
                  refine Sx.condT F rfl ?_
                  refine wp_skip ?_
                  refine hK66 _ _ ?_
                  refine Sx.seq (fun K68 hK68 => ?_)
                  refine wp_block ?_
                  refine Sx.seq (fun K69 hK69 => ?_)
                  have F := Sx.Fr.to F (kv' := [(0, .agg #[.int .u64 ((Wd.hi da).toNat), .int .u64 ((Wd.lo da).toNat)]), (1, .agg #[.int .u64 ((Wd.hi db).toNat), .int .u64 ((Wd.lo db).toNat)]), (2, .pointer (some ⟨g1, 0, none⟩)), (3, .pointer (some ⟨g2, 0, none⟩)), (4, .pointer (some ⟨g3, 0, none⟩)), (12, .agg #[.int .u64 ((Wd.hi da).toNat), .int .u64 ((Wd.lo da).toNat)]), (13, .agg #[.int .u64 ((Wd.lo da % 4294967296#64).toNat), .int .u64 ((Wd.lo da / 4294967296#64).toNat), .int .u64 ((Wd.hi da % 4294967296#64).toNat), .int .u64 ((Wd.hi da / 4294967296#64).toNat)]), (5, .pointer (some ⟨g4, 0, none⟩)), (14, .agg #[.int .u64 ((Wd.hi db).toNat), .int .u64 ((Wd.lo db).toNat)]), (15, .agg #[.int .u64 ((Wd.lo db % 4294967296#64).toNat), .int .u64 ((Wd.lo db / 4294967296#64).toNat), .int .u64 ((Wd.hi db % 4294967296#64).toNat), .int .u64 ((Wd.hi db / 4294967296#64).toNat)]), (6, .pointer (some ⟨g5, 0, none⟩)), (16, .agg #[.int .u64 0, .int .u64 0, .int .u64 0, .int .u64 0]), (7, .pointer (some ⟨g6, 0, none⟩)), (8, .int .i64 2), (17, .int .i64 2), (18, .bool true), (9, .int .u64 ((n20 / 4294967296#64).toNat)), (10, .int .i64 1), (21, .int .i64 2), (22, .int .i64 1), (23, .int .i64 3), (24, .bool true), (42, .int .i64 2), (43, .int .i64 0), (44, .int .i64 2), (45, .int .u64 n20.toNat), (46, .int .u64 ((n20 % 4294967296#64).toNat)), (47, .pointer (some ⟨g6, 2, none⟩)), (48, .int .u64 n20.toNat), (49, .int .u64 ((n20 / 4294967296#64).toNat)), (25, .int .i64 0), (26, .int .i64 1), (19, .int .i64 1), (20, .int .i64 2)]) ⟨rfl, rfl, rfl, rfl, rfl, rfl, rfl, rfl, rfl, rfl, rfl, rfl, rfl, rfl, rfl, rfl, rfl, rfl, rfl, rfl, rfl, rfl, rfl, rfl, rfl, rfl, rfl, rfl, rfl, rfl, rfl, rfl, rfl, rfl, trivial⟩
                  refine Sx.drawn F (by kernel_rfl) (by kernel_rfl) (by kernel_rfl) [some (.int .i64 2), some (.int .i64 1), some (.int .i64 3), some (.pointer (some ⟨g6, 3, none⟩)), some (.int .u64 ((n12 % 4294967296#64).toNat)), some (.int .i64 2), some (.pointer (some ⟨g4, 2, none⟩)), some (.int .u64 ((Wd.hi da % 4294967296#64).toNat)), some (.int .i64 1), some (.pointer (some ⟨g5, 1, none⟩)), some (.int .u64 ((Wd.lo db / 4294967296#64).toNat)), some (.int .u64 (((Wd.hi da % 4294967296#64) * (Wd.lo db / 4294967296#64)).toNat)), some (.int .u64 (((n12 % 4294967296#64) + ((Wd.hi da % 4294967296#64) * (Wd.lo db / 4294967296#64))).toNat)), some (.int .u64 ((n20 / 4294967296#64).toNat)), some (.int .u64 ((((n12 % 4294967296#64) + ((Wd.hi da % 4294967296#64) * (Wd.lo db / 4294967296#64))) + (n20 / 4294967296#64)).toNat)), some (.int .u64 ((((n12 % 4294967296#64) + ((Wd.hi da % 4294967296#64) * (Wd.lo db / 4294967296#64))) + (n20 / 4294967296#64)).toNat))] (fun L A w => Sx.Own w0 w [(true, g6, [.int .u64 ((n00 % 4294967296#64).toNat), .int .u64 ((n10 % 4294967296#64).toNat), .int .u64 ((n20 % 4294967296#64).toNat), .int .u64 ((n12 % 4294967296#64).toNat)]), (true, g5, [.int .u64 ((Wd.lo db % 4294967296#64).toNat), .int .u64 ((Wd.lo db / 4294967296#64).toNat), .int .u64 ((Wd.hi db % 4294967296#64).toNat), .int .u64 ((Wd.hi db / 4294967296#64).toNat)]), (true, g4, [.int .u64 ((Wd.lo da % 4294967296#64).toNat), .int .u64 ((Wd.lo da / 4294967296#64).toNat), .int .u64 ((Wd.hi da % 4294967296#64).toNat), .int .u64 ((Wd.hi da / 4294967296#64).toNat)]), (true, g3, [.int .u64 ((Wd.hi 0#128).toNat), .int .u64 ((Wd.lo 0#128).toNat)]), (true, g2, [.int .u64 ((Wd.hi db).toNat), .int .u64 ((Wd.lo db).toNat)]), (true, g1, [.int .u64 ((Wd.hi da).toNat), .int .u64 ((Wd.lo da).toNat)])] []) H.drew ?_ ?_
                  · refine ⟨?_, ?_, ?_, ?_, ?_, ?_, ?_, ?_, ?_, ?_, ?_, ?_, ?_, ?_, ?_, ?_, trivial⟩
                    · show Sx.StepAt _ _ _ _ _ _ _ 0
                      intro L A w up hun hd F H
                      have F := Sx.Fr.to F (kv' := [(8, .int .i64 2)]) ⟨rfl, trivial⟩
                      refine Sx.step_on rfl (Sx.d_move F (Or.inl rfl) rfl) ?_
                      rintro xv w' ⟨hx, rfl⟩
                      exact ⟨(fun cv hc => hx.trans (Option.some.inj (Option.some.inj hc))), H⟩
                    · show Sx.StepAt _ _ _ _ _ _ _ 1
                      intro L A w up hun hd F H
                      have F := Sx.Fr.to F (kv' := [(10, .int .i64 1)]) ⟨rfl, trivial⟩
                      refine Sx.step_on rfl (Sx.d_move F (Or.inl rfl) rfl) ?_
                      rintro xv w' ⟨hx, rfl⟩
                      exact ⟨(fun cv hc => hx.trans (Option.some.inj (Option.some.inj hc))), H⟩
                    · show Sx.StepAt _ _ _ _ _ _ _ 2
                      intro L A w up hun hd F H
                      have F := Sx.Fr.to F (kv' := [(27, .int .i64 2), (28, .int .i64 1)]) ⟨rfl, rfl, trivial⟩
                      refine Sx.step_on rfl (Sx.d_bin (v := .int .i64 3) F rfl rfl rfl (Sx.i_addS (by decide))) ?_
                      rintro xv w' ⟨hx, rfl⟩
                      exact ⟨(fun cv hc => hx.trans (Option.some.inj (Option.some.inj hc))), H⟩
                    · show Sx.StepAt _ _ _ _ _ _ _ 3
                      intro L A w up hun hd F H
                      have F := Sx.Fr.to F (kv' := [(7, .pointer (some ⟨g6, 0, none⟩)), (29, .int .i64 3)]) ⟨rfl, rfl, trivial⟩
                      refine Sx.step_on rfl (Sx.d_iaddr (v := .pointer (some ⟨g6, 3, none⟩)) F rfl rfl rfl (by kernel_rfl)) ?_
                      rintro xv w' ⟨hx, rfl⟩
                      exact ⟨(fun cv hc => hx.trans (Option.some.inj (Option.some.inj hc))), H⟩
                    · show Sx.StepAt _ _ _ _ _ _ _ 4
                      intro L A w up hun hd F H
                      have F := Sx.Fr.to F (kv' := [(30, .pointer (some ⟨g6, 3, none⟩))]) ⟨rfl, trivial⟩
                      refine Sx.step_on rfl (Sx.d_load1 (i := 0) (v := .int .u64 ((n12 % 4294967296#64).toNat)) one_22 F H rfl rfl rfl rfl) ?_
                      rintro xv w' ⟨hx, rfl⟩
                      exact ⟨(fun cv hc => hx.trans (Option.some.inj (Option.some.inj hc))), H⟩
                    · show Sx.StepAt _ _ _ _ _ _ _ 5
                      intro L A w up hun hd F H
                      have F := Sx.Fr.to F (kv' := [(8, .int .i64 2)]) ⟨rfl, trivial⟩
                      refine Sx.step_on rfl (Sx.d_move F (Or.inl rfl) rfl) ?_
                      rintro xv w' ⟨hx, rfl⟩
                      exact ⟨(fun cv hc => hx.trans (Option.some.inj (Option.some.inj hc))), H⟩
                    · show Sx.StepAt _ _ _ _ _ _ _ 6
                      intro L A w up hun hd F H
                      have F := Sx.Fr.to F (kv' := [(5, .pointer (some ⟨g4, 0, none⟩)), (32, .int .i64 2)]) ⟨rfl, rfl, trivial⟩
                      refine Sx.step_on rfl (Sx.d_iaddr (v := .pointer (some ⟨g4, 2, none⟩)) F rfl rfl rfl (by kernel_rfl)) ?_
                      rintro xv w' ⟨hx, rfl⟩
                      exact ⟨(fun cv hc => hx.trans (Option.some.inj (Option.some.inj hc))), H⟩
                    · show Sx.StepAt _ _ _ _ _ _ _ 7
                      intro L A w up hun hd F H
                      have F := Sx.Fr.to F (kv' := [(33, .pointer (some ⟨g4, 2, none⟩))]) ⟨rfl, trivial⟩
                      refine Sx.step_on rfl (Sx.d_load1 (i := 2) (v := .int .u64 ((Wd.hi da % 4294967296#64).toNat)) one_22 F H rfl rfl rfl rfl) ?_
                      rintro xv w' ⟨hx, rfl⟩
                      exact ⟨(fun cv hc => hx.trans (Option.some.inj (Option.some.inj hc))), H⟩
                    · show Sx.StepAt _ _ _ _ _ _ _ 8
                      intro L A w up hun hd F H
                      have F := Sx.Fr.to F (kv' := [(10, .int .i64 1)]) ⟨rfl, trivial⟩
                      refine Sx.step_on rfl (Sx.d_move F (Or.inl rfl) rfl) ?_
                      rintro xv w' ⟨hx, rfl⟩
                      exact ⟨(fun cv hc => hx.trans (Option.some.inj (Option.some.inj hc))), H⟩
                    · show Sx.StepAt _ _ _ _ _ _ _ 9
                      intro L A w up hun hd F H
                      have F := Sx.Fr.to F (kv' := [(6, .pointer (some ⟨g5, 0, none⟩)), (35, .int .i64 1)]) ⟨rfl, rfl, trivial⟩
                      refine Sx.step_on rfl (Sx.d_iaddr (v := .pointer (some ⟨g5, 1, none⟩)) F rfl rfl rfl (by kernel_rfl)) ?_
                      rintro xv w' ⟨hx, rfl⟩
                      exact ⟨(fun cv hc => hx.trans (Option.some.inj (Option.some.inj hc))), H⟩
                    · show Sx.StepAt _ _ _ _ _ _ _ 10
                      intro L A w up hun hd F H
                      have F := Sx.Fr.to F (kv' := [(36, .pointer (some ⟨g5, 1, none⟩))]) ⟨rfl, trivial⟩
                      refine Sx.step_on rfl (Sx.d_load1 (i := 1) (v := .int .u64 ((Wd.lo db / 4294967296#64).toNat)) one_22 F H rfl rfl rfl rfl) ?_
                      rintro xv w' ⟨hx, rfl⟩
                      exact ⟨(fun cv hc => hx.trans (Option.some.inj (Option.some.inj hc))), H⟩
                    · show Sx.StepAt _ _ _ _ _ _ _ 11
                      intro L A w up hun hd F H
                      have F := Sx.Fr.to F (kv' := [(34, .int .u64 ((Wd.hi da % 4294967296#64).toNat)), (37, .int .u64 ((Wd.lo db / 4294967296#64).toNat))]) ⟨rfl, rfl, trivial⟩
                      refine Sx.step_on rfl (Sx.d_bin (v := .int .u64 (((Wd.hi da % 4294967296#64) * (Wd.lo db / 4294967296#64)).toNat)) F rfl rfl rfl (Sx.i_mul64 (Wd.hi da % 4294967296#64) (Wd.lo db / 4294967296#64))) ?_
                      rintro xv w' ⟨hx, rfl⟩
                      exact ⟨(fun cv hc => hx.trans (Option.some.inj (Option.some.inj hc))), H⟩
                    · show Sx.StepAt _ _ _ _ _ _ _ 12
                      intro L A w up hun hd F H
                      have F := Sx.Fr.to F (kv' := [(31, .int .u64 ((n12 % 4294967296#64).toNat)), (38, .int .u64 (((Wd.hi da % 4294967296#64) * (Wd.lo db / 4294967296#64)).toNat))]) ⟨rfl, rfl, trivial⟩
                      refine Sx.step_on rfl (Sx.d_bin (v := .int .u64 (((n12 % 4294967296#64) + ((Wd.hi da % 4294967296#64) * (Wd.lo db / 4294967296#64))).toNat)) F rfl rfl rfl (Sx.i_add64 (n12 % 4294967296#64) ((Wd.hi da % 4294967296#64) * (Wd.lo db / 4294967296#64)))) ?_
                      rintro xv w' ⟨hx, rfl⟩
                      exact ⟨(fun cv hc => hx.trans (Option.some.inj (Option.some.inj hc))), H⟩
                    · show Sx.StepAt _ _ _ _ _ _ _ 13
                      intro L A w up hun hd F H
                      have F := Sx.Fr.to F (kv' := [(9, .int .u64 ((n20 / 4294967296#64).toNat))]) ⟨rfl, trivial⟩
                      refine Sx.step_on rfl (Sx.d_move F (Or.inl rfl) rfl) ?_
                      rintro xv w' ⟨hx, rfl⟩
                      exact ⟨(fun cv hc => hx.trans (Option.some.inj (Option.some.inj hc))), H⟩
                    · show Sx.StepAt _ _ _ _ _ _ _ 14
                      intro L A w up hun hd F H
                      have F := Sx.Fr.to F (kv' := [(39, .int .u64 (((n12 % 4294967296#64) + ((Wd.hi da % 4294967296#64) * (Wd.lo db / 4294967296#64))).toNat)), (40, .int .u64 ((n20 / 4294967296#64).toNat))]) ⟨rfl, rfl, trivial⟩
                      refine Sx.step_on rfl (Sx.d_bin (v := .int .u64 ((((n12 % 4294967296#64) + ((Wd.hi da % 4294967296#64) * (Wd.lo db / 4294967296#64))) + (n20 / 4294967296#64)).toNat)) F rfl rfl rfl (Sx.i_add64 ((n12 % 4294967296#64) + ((Wd.hi da % 4294967296#64) * (Wd.lo db / 4294967296#64))) (n20 / 4294967296#64))) ?_
                      rintro xv w' ⟨hx, rfl⟩
                      exact ⟨(fun cv hc => hx.trans (Option.some.inj (Option.some.inj hc))), H⟩
                    · show Sx.StepAt _ _ _ _ _ _ _ 15
                      intro L A w up hun hd F H
                      have F := Sx.Fr.to F (kv' := [(41, .int .u64 ((((n12 % 4294967296#64) + ((Wd.hi da % 4294967296#64) * (Wd.lo db / 4294967296#64))) + (n20 / 4294967296#64)).toNat))]) ⟨rfl, trivial⟩
                      refine Sx.step_on rfl (Sx.d_move F (Or.inr rfl) rfl) ?_
                      rintro xv w' ⟨hx, rfl⟩
                      exact ⟨(fun cv hc => hx.trans (Option.some.inj (Option.some.inj hc))), H⟩
                  · intro L A w hL F H
                    have F := Sx.Fr.to F (kv' := [(0, .agg #[.int .u64 ((Wd.hi da).toNat), .int .u64 ((Wd.lo da).toNat)]), (1, .agg #[.int .u64 ((Wd.hi db).toNat), .int .u64 ((Wd.lo db).toNat)]), (2, .pointer (some ⟨g1, 0, none⟩)), (3, .pointer (some ⟨g2, 0, none⟩)), (4, .pointer (some ⟨g3, 0, none⟩)), (12, .agg #[.int .u64 ((Wd.hi da).toNat), .int .u64 ((Wd.lo da).toNat)]), (13, .agg #[.int .u64 ((Wd.lo da % 4294967296#64).toNat), .int .u64 ((Wd.lo da / 4294967296#64).toNat), .int .u64 ((Wd.hi da % 4294967296#64).toNat), .int .u64 ((Wd.hi da / 4294967296#64).toNat)]), (5, .pointer (some ⟨g4, 0, none⟩)), (14, .agg #[.int .u64 ((Wd.hi db).toNat), .int .u64 ((Wd.lo db).toNat)]), (15, .agg #[.int .u64 ((Wd.lo db % 4294967296#64).toNat), .int .u64 ((Wd.lo db / 4294967296#64).toNat), .int .u64 ((Wd.hi db % 4294967296#64).toNat), .int .u64 ((Wd.hi db / 4294967296#64).toNat)]), (6, .pointer (some ⟨g5, 0, none⟩)), (16, .agg #[.int .u64 0, .int .u64 0, .int .u64 0, .int .u64 0]), (7, .pointer (some ⟨g6, 0, none⟩)), (8, .int .i64 2), (17, .int .i64 2), (18, .bool true), (9, .int .u64 ((n20 / 4294967296#64).toNat)), (10, .int .i64 1), (21, .int .i64 2), (22, .int .i64 1), (23, .int .i64 3), (24, .bool true), (42, .int .i64 2), (43, .int .i64 0), (44, .int .i64 2), (45, .int .u64 n20.toNat), (46, .int .u64 ((n20 % 4294967296#64).toNat)), (47, .pointer (some ⟨g6, 2, none⟩)), (48, .int .u64 n20.toNat), (49, .int .u64 ((n20 / 4294967296#64).toNat)), (25, .int .i64 0), (26, .int .i64 1), (19, .int .i64 1), (20, .int .i64 2), (11, .int .u64 ((((n12 % 4294967296#64) + ((Wd.hi da % 4294967296#64) * (Wd.lo db / 4294967296#64))) + (n20 / 4294967296#64)).toNat))]) ⟨rfl, rfl, rfl, rfl, rfl, rfl, rfl, rfl, rfl, rfl, rfl, rfl, rfl, rfl, rfl, rfl, rfl, rfl, rfl, rfl, rfl, rfl, rfl, rfl, rfl, rfl, rfl, rfl, rfl, rfl, rfl, rfl, rfl, rfl, rfl, trivial⟩
                    obtain ⟨n21, hn21⟩ : ∃ q, (((n12 % 4294967296#64) + ((Wd.hi da % 4294967296#64) * (Wd.lo db / 4294967296#64))) + (n20 / 4294967296#64)) = q := ⟨_, rfl⟩
                    rw [hn21] at F
                    refine hK69 _ _ ?_
                    refine Sx.seq (fun K70 hK70 => ?_)
                    refine Sx.plain ?_
                    refine Sx.sv F (Sx.d_move F (Or.inl rfl) rfl) (Sx.wanted_none rfl _) rfl (by decide) (fun A F => ?_)
                    refine Sx.sv F (Sx.d_move F (Or.inl rfl) rfl) (Sx.wanted_none rfl _) rfl (by decide) (fun A F => ?_)
                    refine Sx.sv F (Sx.d_bin (v := .int .i64 3) F rfl rfl rfl (Sx.i_addS (by decide))) (Sx.wanted_none rfl _) rfl (by decide) (fun A F => ?_)
                    refine Sx.sv F (Sx.d_move F (Or.inl rfl) rfl) (Sx.wanted_none rfl _) rfl (by decide) (fun A F => ?_)
                    refine Sx.sv F (Sx.d_bin (v := .int .u64 ((n21 % 4294967296#64).toNat)) F rfl rfl rfl (Sx.i_rem64 n21 4294967296#64 (by decide))) (Sx.wanted_none rfl _) rfl (by decide) (fun A F => ?_)
                    refine Sx.sv F (Sx.d_iaddr (v := .pointer (some ⟨g6, 3, none⟩)) F rfl rfl rfl (by kernel_rfl)) (Sx.wanted_none rfl _) rfl (by decide) (fun A F => ?_)
                    refine Sx.ss F (Sx.d_store (i := 0) (xs := [.int .u64 ((n21 % 4294967296#64).toNat)]) (us := [.int .u64 ((n00 % 4294967296#64).toNat), .int .u64 ((n10 % 4294967296#64).toNat), .int .u64 ((n20 % 4294967296#64).toNat), .int .u64 ((n21 % 4294967296#64).toNat)]) sz_22 F H rfl rfl rfl rfl rfl rfl rfl (Nat.le_of_ble_eq_true rfl) rfl) (Sx.wanted_none rfl _) rfl (fun A w F (H : Sx.Own w0 _ [(true, g6, [.int .u64 ((n00 % 4294967296#64).toNat), .int .u64 ((n10 % 4294967296#64).toNat), .int .u64 ((n20 % 4294967296#64).toNat), .int .u64 ((n21 % 4294967296#64).toNat)]), (true, g5, [.int .u64 ((Wd.lo db % 4294967296#64).toNat), .int .u64 ((Wd.lo db / 4294967296#64).toNat), .int .u64 ((Wd.hi db % 4294967296#64).toNat), .int .u64 ((Wd.hi db / 4294967296#64).toNat)]), (true, g4, [.int .u64 ((Wd.lo da % 4294967296#64).toNat), .int .u64 ((Wd.lo da / 4294967296#64).toNat), .int .u64 ((Wd.hi da % 4294967296#64).toNat), .int .u64 ((Wd.hi da / 4294967296#64).toNat)]), (true, g3, [.int .u64 ((Wd.hi 0#128).toNat), .int .u64 ((Wd.lo 0#128).toNat)]), (true, g2, [.int .u64 ((Wd.hi db).toNat), .int .u64 ((Wd.lo db).toNat)]), (true, g1, [.int .u64 ((Wd.hi da).toNat), .int .u64 ((Wd.lo da).toNat)])] []) => ?_)
                    refine Sx.nil ?_
                    refine hK70 _ _ ?_
                    refine Sx.plain ?_
                    refine Sx.sv F (Sx.d_move F (Or.inl rfl) rfl) (Sx.wanted_none rfl _) rfl (by decide) (fun A F => ?_)
                    refine Sx.sv F (Sx.d_bin (v := .int .u64 ((n21 / 4294967296#64).toNat)) F rfl rfl rfl (Sx.i_quo64 n21 4294967296#64 (by decide))) (Sx.wanted_none rfl _) rfl (by decide) (fun A F => ?_)
                    refine Sx.sv F (Sx.d_move F (Or.inr rfl) rfl) (Sx.wanted_none rfl _) rfl (by decide) (fun A F => ?_)
                    refine Sx.nil ?_
                    refine hK68 _ _ ?_
                    refine Sx.plain ?_
                    refine Sx.sv F (Sx.d_move F (Or.inl rfl) rfl) (Sx.wanted_none rfl _) rfl (by decide) (fun A F => ?_)
                    refine Sx.sv F (Sx.d_bin (v := .int .i64 2) F rfl rfl rfl (Sx.i_addS (by decide))) (Sx.wanted_none rfl _) rfl (by decide) (fun A F => ?_)
                    refine Sx.sv F (Sx.d_move F (Or.inr rfl) rfl) (Sx.wanted_none rfl _) rfl (by decide) (fun A F => ?_)
                    refine Sx.nil ?_
                    try dsimp only [Exit.then]
                    rw [rounds_succ]
                    refine Sx.seq (fun K71 hK71 => ?_)
                    refine Sx.seq (fun K72 hK72 => ?_)
                    refine Sx.plain ?_
                    refine Sx.sv F (Sx.d_move F (Or.inl rfl) rfl) (Sx.wanted_none rfl _) rfl (by decide) (fun A F => ?_)
                    refine Sx.sv F (Sx.d_move F (Or.inl rfl) rfl) (Sx.wanted_none rfl _) rfl (by decide) (fun A F => ?_)
                    refine Sx.sv F (Sx.d_bin (v := .int .i64 4) F rfl rfl rfl (Sx.i_addS (by decide))) (Sx.wanted_none rfl _) rfl (by decide) (fun A F => ?_)
                    refine Sx.sv F (Sx.d_bin (v := .bool false) F rfl rfl rfl (Sx.i_lt (by decide))) (Sx.wanted_none rfl _) rfl (by decide) (fun A F => ?_)
                    refine Sx.nil ?_
                    refine hK72 _ _ ?_
                    refine Sx.condF F rfl ?_
                    refine wp_exit ?_
                    try dsimp only [Exit.then, Exit.jump]
                    refine Sx.exit_here ?_
                    refine hK58 _ _ ?_
                    refine Sx.plain ?_
                    refine Sx.sv F (Sx.d_move F (Or.inl rfl) rfl) (Sx.wanted_none rfl _) rfl (by decide) (fun A F => ?_)
                    refine Sx.sv F (Sx.d_bin (v := .int .i64 3) F rfl rfl rfl (Sx.i_addS (by decide))) (Sx.wanted_none rfl _) rfl (by decide) (fun A F => ?_)
                    refine Sx.sv F (Sx.d_move F (Or.inr rfl) rfl) (Sx.wanted_none rfl _) rfl (by decide) (fun A F => ?_)
                    refine Sx.nil ?_
                    try dsimp only [Exit.then]
                    rw [rounds_succ]
                    refine Sx.seq (fun K73 hK73 => ?_)
                    refine Sx.seq (fun K74 hK74 => ?_)
                    refine Sx.plain ?_
                    refine Sx.sv F (Sx.d_move F (Or.inl rfl) rfl) (Sx.wanted_none rfl _) rfl (by decide) (fun A F => ?_)
                    refine Sx.sv F (Sx.d_bin (v := .bool true) F rfl rfl rfl (Sx.i_lt (by decide))) (Sx.wanted_none rfl _) rfl (by decide) (fun A F => ?_)
                    refine Sx.nil ?_
                    refine hK74 _ _ ?_
                    refine Sx.condT F rfl ?_
                    refine wp_skip ?_
                    refine hK73 _ _ ?_
                    refine Sx.seq (fun K75 hK75 => ?_)
                    refine wp_block ?_
                    refine Sx.seq (fun K76 hK76 => ?_)
                    refine Sx.plain ?_
                    refine Sx.sv F (Sx.d_move F (Or.inr rfl) rfl) (Sx.wanted_none rfl _) rfl (by decide) (fun A F => ?_)
                    refine Sx.nil ?_
                    refine hK76 _ _ ?_
                    refine Sx.seq (fun K77 hK77 => ?_)
                    refine Sx.plain ?_
                    refine Sx.sv F (Sx.d_move F (Or.inr rfl) rfl) (Sx.wanted_none rfl _) rfl (by decide) (fun A F => ?_)
                    refine Sx.nil ?_
                    refine hK77 _ _ ?_
                    refine wp_block ?_
                    refine wp_loop_rounds 5 ?_
                    try dsimp only [Exit.then]
                    rw [rounds_succ]
                    refine Sx.seq (fun K78 hK78 => ?_)
                    refine Sx.seq (fun K79 hK79 => ?_)
                    refine Sx.plain ?_
                    refine Sx.sv F (Sx.d_move F (Or.inl rfl) rfl) (Sx.wanted_none rfl _) rfl (by decide) (fun A F => ?_)
                    refine Sx.sv F (Sx.d_move F (Or.inl rfl) rfl) (Sx.wanted_none rfl _) rfl (by decide) (fun A F => ?_)
                    refine Sx.sv F (Sx.d_bin (v := .int .i64 3) F rfl rfl rfl (Sx.i_addS (by decide))) (Sx.wanted_none rfl _) rfl (by decide) (fun A F => ?_)
                    refine Sx.sv F (Sx.d_bin (v := .bool true) F rfl rfl rfl (Sx.i_lt (by decide))) (Sx.wanted_none rfl _) rfl (by decide) (fun A F => ?_)
                    refine Sx.nil ?_
                    refine hK79 _ _ ?_
                    refine Sx.condT F rfl ?_
                    refine wp_skip ?_
                    refine hK78 _ _ ?_
                    refine Sx.seq (fun K80 hK80 => ?_)
                    refine wp_block ?_
                    refine Sx.seq (fun K81 hK81 => ?_)
                    have F := Sx.Fr.to F (kv' := [(0, .agg #[.int .u64 ((Wd.hi da).toNat), .int .u64 ((Wd.lo da).toNat)]), (1, .agg #[.int .u64 ((Wd.hi db).toNat), .int .u64 ((Wd.lo db).toNat)]), (2, .pointer (some ⟨g1, 0, none⟩)), (3, .pointer (some ⟨g2, 0, none⟩)), (4, .pointer (some ⟨g3, 0, none⟩)), (12, .agg #[.int .u64 ((Wd.hi da).toNat), .int .u64 ((Wd.lo da).toNat)]), (13, .agg #[.int .u64 ((Wd.lo da % 4294967296#64).toNat), .int .u64 ((Wd.lo da / 4294967296#64).toNat), .int .u64 ((Wd.hi da % 4294967296#64).toNat), .int .u64 ((Wd.hi da / 4294967296#64).toNat)]), (5, .pointer (some ⟨g4, 0, none⟩)), (14, .agg #[.int .u64 ((Wd.hi db).toNat), .int .u64 ((Wd.lo db).toNat)]), (15, .agg #[.int .u64 ((Wd.lo db % 4294967296#64).toNat), .int .u64 ((Wd.lo db / 4294967296#64).toNat), .int .u64 ((Wd.hi db % 4294967296#64).toNat), .int .u64 ((Wd.hi db / 4294967296#64).toNat)]), (6, .pointer (some ⟨g5, 0, none⟩)), (16, .agg #[.int .u64 0, .int .u64 0, .int .u64 0, .int .u64 0]), (7, .pointer (some ⟨g6, 0, none⟩)), (8, .int .i64 3), (17, .int .i64 3), (18, .bool true), (9, .int .u64 0), (10, .int .i64 0), (21, .int .i64 3), (22, .int .i64 0), (23, .int .i64 3), (24, .bool true), (42, .int .i64 2), (43, .int .i64 1), (44, .int .i64 3), (45, .int .u64 n21.toNat), (46, .int .u64 ((n21 % 4294967296#64).toNat)), (47, .pointer (some ⟨g6, 3, none⟩)), (48, .int .u64 n21.toNat), (49, .int .u64 ((n21 / 4294967296#64).toNat)), (25, .int .i64 1), (26, .int .i64 2), (19, .int .i64 2), (20, .int .i64 3)]) ⟨rfl, rfl, rfl, rfl, rfl, rfl, rfl, rfl, rfl, rfl, rfl, rfl, rfl, rfl, rfl, rfl, rfl, rfl, rfl, rfl, rfl, rfl, rfl, rfl, rfl, rfl, rfl, rfl, rfl, rfl, rfl, rfl, rfl, rfl, trivial⟩
                    refine Sx.drawn F (by kernel_rfl) (by kernel_rfl) (by kernel_rfl) [some (.int .i64 3), some (.int .i64 0), some (.int .i64 3), some (.pointer (some ⟨g6, 3, none⟩)), some (.int .u64 ((n21 % 4294967296#64).toNat)), some (.int .i64 3), some (.pointer (some ⟨g4, 3, none⟩)), some (.int .u64 ((Wd.hi da / 4294967296#64).toNat)), some (.int .i64 0), some (.pointer (some ⟨g5, 0, none⟩)), some (.int .u64 ((Wd.lo db % 4294967296#64).toNat)), some (.int .u64 (((Wd.hi da / 4294967296#64) * (Wd.lo db % 4294967296#64)).toNat)), some (.int .u64 (((n21 % 4294967296#64) + ((Wd.hi da / 4294967296#64) * (Wd.lo db % 4294967296#64))).toNat)), some (.int .u64 0), some (.int .u64 ((((n21 % 4294967296#64) + ((Wd.hi da / 4294967296#64) * (Wd.lo db % 4294967296#64))) + 0#64).toNat)), some (.int .u64 ((((n21 % 4294967296#64) + ((Wd.hi da / 4294967296#64) * (Wd.lo db % 4294967296#64))) + 0#64).toNat))] (fun L A w => Sx.Own w0 w [(true, g6, [.int .u64 ((n00 % 4294967296#64).toNat), .int .u64 ((n10 % 4294967296#64).toNat), .int .u64 ((n20 % 4294967296#64).toNat), .int .u64 ((n21 % 4294967296#64).toNat)]), (true, g5, [.int .u64 ((Wd.lo db % 4294967296#64).toNat), .int .u64 ((Wd.lo db / 4294967296#64).toNat), .int .u64 ((Wd.hi db % 4294967296#64).toNat), .int .u64 ((Wd.hi db / 4294967296#64).toNat)]), (true, g4, [.int .u64 ((Wd.lo da % 4294967296#64).toNat), .int .u64 ((Wd.lo da / 4294967296#64).toNat), .int .u64 ((Wd.hi da % 4294967296#64).toNat), .int .u64 ((Wd.hi da / 4294967296#64).toNat)]), (true, g3, [.int .u64 ((Wd.hi 0#128).toNat), .int .u64 ((Wd.lo 0#128).toNat)]), (true, g2, [.int .u64 ((Wd.hi db).toNat), .int .u64 ((Wd.lo db).toNat)]), (true, g1, [.int .u64 ((Wd.hi da).toNat), .int .u64 ((Wd.lo da).toNat)])] []) H.drew ?_ ?_
                    · refine ⟨?_, ?_, ?_, ?_, ?_, ?_, ?_, ?_, ?_, ?_, ?_, ?_, ?_, ?_, ?_, ?_, trivial⟩
                      · show Sx.StepAt _ _ _ _ _ _ _ 0
                        intro L A w up hun hd F H
                        have F := Sx.Fr.to F (kv' := [(8, .int .i64 3)]) ⟨rfl, trivial⟩
                        refine Sx.step_on rfl (Sx.d_move F (Or.inl rfl) rfl) ?_
                        rintro xv w' ⟨hx, rfl⟩
                        exact ⟨(fun cv hc => hx.trans (Option.some.inj (Option.some.inj hc))), H⟩
                      · show Sx.StepAt _ _ _ _ _ _ _ 1
                        intro L A w up hun hd F H
                        have F := Sx.Fr.to F (kv' := [(10, .int .i64 0)]) ⟨rfl, trivial⟩
                        refine Sx.step_on rfl (Sx.d_move F (Or.inl rfl) rfl) ?_
                        rintro xv w' ⟨hx, rfl⟩
                        exact ⟨(fun cv hc => hx.trans (Option.some.inj (Option.some.inj hc))), H⟩
                      · show Sx.StepAt _ _ _ _ _ _ _ 2
                        intro L A w up hun hd F H
                        have F := Sx.Fr.to F (kv' := [(27, .int .i64 3), (28, .int .i64 0)]) ⟨rfl, rfl, trivial⟩
                        refine Sx.step_on rfl (Sx.d_bin (v := .int .i64 3) F rfl rfl rfl (Sx.i_addS (by decide))) ?_
                        rintro xv w' ⟨hx, rfl⟩
                        exact ⟨(fun cv hc => hx.trans (Option.some.inj (Option.some.inj hc))), H⟩
                      · show Sx.StepAt _ _ _ _ _ _ _ 3
                        intro L A w up hun hd F H
                        have F := Sx.Fr.to F (kv' := [(7, .pointer (some ⟨g6, 0, none⟩)), (29, .int .i64 3)]) ⟨rfl, rfl, trivial⟩
                        refine Sx.step_on rfl (Sx.d_iaddr (v := .pointer (some ⟨g6, 3, none⟩)) F rfl rfl rfl (by kernel_rfl)) ?_
                        rintro xv w' ⟨hx, rfl⟩
                        exact ⟨(fun cv hc => hx.trans (Option.some.inj (Option.some.inj hc))), H⟩
                      · show Sx.StepAt _ _ _ _ _ _ _ 4
                        intro L A w up hun hd F H
                        have F := Sx.Fr.to F (kv' := [(30, .pointer (some ⟨g6, 3, none⟩))]) ⟨rfl, trivial⟩
                        refine Sx.step_on rfl (Sx.d_load1 (i := 0) (v := .int .u64 ((n21 % 4294967296#64).toNat)) one_22 F H rfl rfl rfl rfl) ?_
                        rintro xv w' ⟨hx, rfl⟩
                        exact ⟨(fun cv hc => hx.trans (Option.some.inj (Option.some.inj hc))), H⟩
                      · show Sx.StepAt _ _ _ _ _ _ _ 5
                        intro L A w up hun hd F H
                        have F := Sx.Fr.to F (kv' := [(8, .int .i64 3)]) ⟨rfl, trivial⟩
                        refine Sx.step_on rfl (Sx.d_move F (Or.inl rfl) rfl) ?_
                        rintro xv w' ⟨hx, rfl⟩
                        exact ⟨(fun cv hc => hx.trans (Option.some.inj (Option.some.inj hc))), H⟩
                      · show Sx.StepAt _ _ _ _ _ _ _ 6
                        intro L A w up hun hd F H
                        have F := Sx.Fr.to F (kv' := [(5, .pointer (some ⟨g4, 0, none⟩)), (32, .int .i64 3)]) ⟨rfl, rfl, trivial⟩
                        refine Sx.step_on rfl (Sx.d_iaddr (v := .pointer (some ⟨g4, 3, none⟩)) F rfl rfl rfl (by kernel_rfl)) ?_
                        rintro xv w' ⟨hx, rfl⟩
                        exact ⟨(fun cv hc => hx.trans (Option.some.inj (Option.some.inj hc))), H⟩
                      · show Sx.StepAt _ _ _ _ _ _ _ 7
                        intro L A w up hun hd F H
                        have F := Sx.Fr.to F (kv' := [(33, .pointer (some ⟨g4, 3, none⟩))]) ⟨rfl, trivial⟩
                        refine Sx.step_on rfl (Sx.d_load1 (i := 2) (v := .int .u64 ((Wd.hi da / 4294967296#64).toNat)) one_22 F H rfl rfl rfl rfl) ?_
                        rintro xv w' ⟨hx, rfl⟩
                        exact ⟨(fun cv hc => hx.trans (Option.some.inj (Option.some.inj hc))), H⟩
                      · show Sx.StepAt _ _ _ _ _ _ _ 8
                        intro L A w up hun hd F H
                        have F := Sx.Fr.to F (kv' := [(10, .int .i64 0)]) ⟨rfl, trivial⟩
                        refine Sx.step_on rfl (Sx.d_move F (Or.inl rfl) rfl) ?_
                        rintro xv w' ⟨hx, rfl⟩
                        exact ⟨(fun cv hc => hx.trans (Option.some.inj (Option.some.inj hc))), H⟩
                      · show Sx.StepAt _ _ _ _ _ _ _ 9
                        intro L A w up hun hd F H
                        have F := Sx.Fr.to F (kv' := [(6, .pointer (some ⟨g5, 0, none⟩)), (35, .int .i64 0)]) ⟨rfl, rfl, trivial⟩
                        refine Sx.step_on rfl (Sx.d_iaddr (v := .pointer (some ⟨g5, 0, none⟩)) F rfl rfl rfl (by kernel_rfl)) ?_
                        rintro xv w' ⟨hx, rfl⟩
                        exact ⟨(fun cv hc => hx.trans (Option.some.inj (Option.some.inj hc))), H⟩
                      · show Sx.StepAt _ _ _ _ _ _ _ 10
                        intro L A w up hun hd F H
                        have F := Sx.Fr.to F (kv' := [(36, .pointer (some ⟨g5, 0, none⟩))]) ⟨rfl, trivial⟩
                        refine Sx.step_on rfl (Sx.d_load1 (i := 1) (v := .int .u64 ((Wd.lo db % 4294967296#64).toNat)) one_22 F H rfl rfl rfl rfl) ?_
                        rintro xv w' ⟨hx, rfl⟩
                        exact ⟨(fun cv hc => hx.trans (Option.some.inj (Option.some.inj hc))), H⟩
                      · show Sx.StepAt _ _ _ _ _ _ _ 11
                        intro L A w up hun hd F H
                        have F := Sx.Fr.to F (kv' := [(34, .int .u64 ((Wd.hi da / 4294967296#64).toNat)), (37, .int .u64 ((Wd.lo db % 4294967296#64).toNat))]) ⟨rfl, rfl, trivial⟩
                        refine Sx.step_on rfl (Sx.d_bin (v := .int .u64 (((Wd.hi da / 4294967296#64) * (Wd.lo db % 4294967296#64)).toNat)) F rfl rfl rfl (Sx.i_mul64 (Wd.hi da / 4294967296#64) (Wd.lo db % 4294967296#64))) ?_
                        rintro xv w' ⟨hx, rfl⟩
                        exact ⟨(fun cv hc => hx.trans (Option.some.inj (Option.some.inj hc))), H⟩
                      · show Sx.StepAt _ _ _ _ _ _ _ 12
                        intro L A w up hun hd F H
                        have F := Sx.Fr.to F (kv' := [(31, .int .u64 ((n21 % 4294967296#64).toNat)), (38, .int .u64 (((Wd.hi da / 4294967296#64) * (Wd.lo db % 4294967296#64)).toNat))]) ⟨rfl, rfl, trivial⟩
                        refine Sx.step_on rfl (Sx.d_bin (v := .int .u64 (((n21 % 4294967296#64) + ((Wd.hi da / 4294967296#64) * (Wd.lo db % 4294967296#64))).toNat)) F rfl rfl rfl (Sx.i_add64 (n21 % 4294967296#64) ((Wd.hi da / 4294967296#64) * (Wd.lo db % 4294967296#64)))) ?_
                        rintro xv w' ⟨hx, rfl⟩
                        exact ⟨(fun cv hc => hx.trans (Option.some.inj (Option.some.inj hc))), H⟩
                      · show Sx.StepAt _ _ _ _ _ _ _ 13
                        intro L A w up hun hd F H
                        have F := Sx.Fr.to F (kv' := [(9, .int .u64 0)]) ⟨rfl, trivial⟩
                        refine Sx.step_on rfl (Sx.d_move F (Or.inl rfl) rfl) ?_
                        rintro xv w' ⟨hx, rfl⟩
                        exact ⟨(fun cv hc => hx.trans (Option.some.inj (Option.some.inj hc))), H⟩
                      · show Sx.StepAt _ _ _ _ _ _ _ 14
                        intro L A w up hun hd F H
                        have F := Sx.Fr.to F (kv' := [(39, .int .u64 (((n21 % 4294967296#64) + ((Wd.hi da / 4294967296#64) * (Wd.lo db % 4294967296#64))).toNat)), (40, .int .u64 0)]) ⟨rfl, rfl, trivial⟩
                        refine Sx.step_on rfl (Sx.d_bin (v := .int .u64 ((((n21 % 4294967296#64) + ((Wd.hi da / 4294967296#64) * (Wd.lo db % 4294967296#64))) + 0#64).toNat)) F rfl rfl rfl (Sx.i_add64 ((n21 % 4294967296#64) + ((Wd.hi da / 4294967296#64) * (Wd.lo db % 4294967296#64))) 0#64)) ?_
                        rintro xv w' ⟨hx, rfl⟩
                        exact ⟨(fun cv hc => hx.trans (Option.some.inj (Option.some.inj hc))), H⟩
                      · show Sx.StepAt _ _ _ _ _ _ _ 15
                        intro L A w up hun hd F H
                        have F := Sx.Fr.to F (kv' := [(41, .int .u64 ((((n21 % 4294967296#64) + ((Wd.hi da / 4294967296#64) * (Wd.lo db % 4294967296#64))) + 0#64).toNat))]) ⟨rfl, trivial⟩
                        refine Sx.step_on rfl (Sx.d_move F (Or.inr rfl) rfl) ?_
                        rintro xv w' ⟨hx, rfl⟩
                        exact ⟨(fun cv hc => hx.trans (Option.some.inj (Option.some.inj hc))), H⟩
                    · intro L A w hL F H
                      have F := Sx.Fr.to F (kv' := [(0, .agg #[.int .u64 ((Wd.hi da).toNat), .int .u64 ((Wd.lo da).toNat)]), (1, .agg #[.int .u64 ((Wd.hi db).toNat), .int .u64 ((Wd.lo db).toNat)]), (2, .pointer (some ⟨g1, 0, none⟩)), (3, .pointer (some ⟨g2, 0, none⟩)), (4, .pointer (some ⟨g3, 0, none⟩)), (12, .agg #[.int .u64 ((Wd.hi da).toNat), .int .u64 ((Wd.lo da).toNat)]), (13, .agg #[.int .u64 ((Wd.lo da % 4294967296#64).toNat), .int .u64 ((Wd.lo da / 4294967296#64).toNat), .int .u64 ((Wd.hi da % 4294967296#64).toNat), .int .u64 ((Wd.hi da / 4294967296#64).toNat)]), (5, .pointer (some ⟨g4, 0, none⟩)), (14, .agg #[.int .u64 ((Wd.hi db).toNat), .int .u64 ((Wd.lo db).toNat)]), (15, .agg #[.int .u64 ((Wd.lo db % 4294967296#64).toNat), .int .u64 ((Wd.lo db / 4294967296#64).toNat), .int .u64 ((Wd.hi db % 4294967296#64).toNat), .int .u64 ((Wd.hi db / 4294967296#64).toNat)]), (6, .pointer (some ⟨g5, 0, none⟩)), (16, .agg #[.int .u64 0, .int .u64 0, .int .u64 0, .int .u64 0]), (7, .pointer (some ⟨g6, 0, none⟩)), (8, .int .i64 3), (17, .int .i64 3), (18, .bool true), (9, .int .u64 0), (10, .int .i64 0), (21, .int .i64 3), (22, .int .i64 0), (23, .int .i64 3), (24, .bool true), (42, .int .i64 2), (43, .int .i64 1), (44, .int .i64 3), (45, .int .u64 n21.toNat), (46, .int .u64 ((n21 % 4294967296#64).toNat)), (47, .pointer (some ⟨g6, 3, none⟩)), (48, .int .u64 n21.toNat), (49, .int .u64 ((n21 / 4294967296#64).toNat)), (25, .int .i64 1), (26, .int .i64 2), (19, .int .i64 2), (20, .int .i64 3), (11, .int .u64 ((((n21 % 4294967296#64) + ((Wd.hi da / 4294967296#64) * (Wd.lo db % 4294967296#64))) + 0#64).toNat))]) ⟨rfl, rfl, rfl, rfl, rfl, rfl, rfl, rfl, rfl, rfl, rfl, rfl, rfl, rfl, rfl, rfl, rfl, rfl, rfl, rfl, rfl, rfl, rfl, rfl, rfl, rfl, rfl, rfl, rfl, rfl, rfl, rfl, rfl, rfl, rfl, trivial⟩
                      obtain ⟨n30, hn30⟩ : ∃ q, (((n21 % 4294967296#64) + ((Wd.hi da / 4294967296#64) * (Wd.lo db % 4294967296#64))) + 0#64) = q := ⟨_, rfl⟩
                      rw [hn30] at F
                      refine hK81 _ _ ?_
                      refine Sx.seq (fun K82 hK82 => ?_)
                      refine Sx.plain ?_
                      refine Sx.sv F (Sx.d_move F (Or.inl rfl) rfl) (Sx.wanted_none rfl _) rfl (by decide) (fun A F => ?_)
                      refine Sx.sv F (Sx.d_move F (Or.inl rfl) rfl) (Sx.wanted_none rfl _) rfl (by decide) (fun A F => ?_)
                      refine Sx.sv F (Sx.d_bin (v := .int .i64 3) F rfl rfl rfl (Sx.i_addS (by decide))) (Sx.wanted_none rfl _) rfl (by decide) (fun A F => ?_)
                      refine Sx.sv F (Sx.d_move F (Or.inl rfl) rfl) (Sx.wanted_none rfl _) rfl (by decide) (fun A F => ?_)
                      refine Sx.sv F (Sx.d_bin (v := .int .u64 ((n30 % 4294967296#64).toNat)) F rfl rfl rfl (Sx.i_rem64 n30 4294967296#64 (by decide))) (Sx.wanted_none rfl _) rfl (by decide) (fun A F => ?_)
                      refine Sx.sv F (Sx.d_iaddr (v := .pointer (some ⟨g6, 3, none⟩)) F rfl rfl rfl (by kernel_rfl)) (Sx.wanted_none rfl _) rfl (by decide) (fun A F => ?_)
                      refine Sx.ss F (Sx.d_store (i := 0) (xs := [.int .u64 ((n30 % 4294967296#64).toNat)]) (us := [.int .u64 ((n00 % 4294967296#64).toNat), .int .u64 ((n10 % 4294967296#64).toNat), .int .u64 ((n20 % 4294967296#64).toNat), .int .u64 ((n30 % 4294967296#64).toNat)]) sz_22 F H rfl rfl rfl rfl rfl rfl rfl (Nat.le_of_ble_eq_true rfl) rfl) (Sx.wanted_none rfl _) rfl (fun A w F (H : Sx.Own w0 _ [(true, g6, [.int .u64 ((n00 % 4294967296#64).toNat), .int .u64 ((n10 % 4294967296#64).toNat), .int .u64 ((n20 % 4294967296#64).toNat), .int .u64 ((n30 % 4294967296#64).toNat)]), (true, g5, [.int .u64 ((Wd.lo db % 4294967296#64).toNat), .int .u64 ((Wd.lo db / 4294967296#64).toNat), .int .u64 ((Wd.hi db % 4294967296#64).toNat), .int .u64 ((Wd.hi db / 4294967296#64).toNat)]), (true, g4, [.int .u64 ((Wd.lo da % 4294967296#64).toNat), .int .u64 ((Wd.lo da / 4294967296#64).toNat), .int .u64 ((Wd.hi da % 4294967296#64).toNat), .int .u64 ((Wd.hi da / 4294967296#64).toNat)]), (true, g3, [.int .u64 ((Wd.hi 0#128).toNat), .int .u64 ((Wd.lo 0#128).toNat)]), (true, g2, [.int .u64 ((Wd.hi db).toNat), .int .u64 ((Wd.lo db).toNat)]), (true, g1, [.int .u64 ((Wd.hi da).toNat), .int .u64 ((Wd.lo da).toNat)])] []) => ?_)
                      refine Sx.nil ?_
                      refine hK82 _ _ ?_
                      refine Sx.plain ?_
                      refine Sx.sv F (Sx.d_move F (Or.inl rfl) rfl) (Sx.wanted_none rfl _) rfl (by decide) (fun A F => ?_)
                      refine Sx.sv F (Sx.d_bin (v := .int .u64 ((n30 / 4294967296#64).toNat)) F rfl rfl rfl (Sx.i_quo64 n30 4294967296#64 (by decide))) (Sx.wanted_none rfl _) rfl (by decide) (fun A F => ?_)
                      refine Sx.sv F (Sx.d_move F (Or.inr rfl) rfl) (Sx.wanted_none rfl _) rfl (by decide) (fun A F => ?_)
                      refine Sx.nil ?_
                      refine hK80 _ _ ?_
                      refine Sx.plain ?_
                      refine Sx.sv F (Sx.d_move F (Or.inl rfl) rfl) (Sx.wanted_none rfl _) rfl (by decide) (fun A F => ?_)
                      refine Sx.sv F (Sx.d_bin (v := .int .i64 1) F rfl rfl rfl (Sx.i_addS (by decide))) (Sx.wanted_none rfl _) rfl (by decide) (fun A F => ?_)
                      refine Sx.sv F (Sx.d_move F (Or.inr rfl) rfl) (Sx.wanted_none rfl _) rfl (by decide) (fun A F => ?_)
                      refine Sx.nil ?_
                      try dsimp only [Exit.then]
                      rw [rounds_succ]
                      refine Sx.seq (fun K83 hK83 => ?_)
                      refine Sx.seq (fun K84 hK84 => ?_)
                      refine Sx.plain ?_
                      refine Sx.sv F (Sx.d_move F (Or.inl rfl) rfl) (Sx.wanted_none rfl _) rfl (by decide) (fun A F => ?_)
                      refine Sx.sv F (Sx.d_move F (Or.inl rfl) rfl) (Sx.wanted_none rfl _) rfl (by decide) (fun A F => ?_)
                      refine Sx.sv F (Sx.d_bin (v := .int .i64 4) F rfl rfl rfl (Sx.i_addS (by decide))) (Sx.wanted_none rfl _) rfl (by decide) (fun A F => ?_)
                      refine Sx.sv F (Sx.d_bin (v := .bool false) F rfl rfl rfl (Sx.i_lt (by decide))) (Sx.wanted_none rfl _) rfl (by decide) (fun A F => ?_)
                      refine Sx.nil ?_
                      refine hK84 _ _ ?_
                      refine Sx.condF F rfl ?_
                      refine wp_exit ?_
                      try dsimp only [Exit.then, Exit.jump]
                      refine Sx.exit_here ?_
                      refine hK75 _ _ ?_
                      refine Sx.plain ?_
                      refine Sx.sv F (Sx.d_move F (Or.inl rfl) rfl) (Sx.wanted_none rfl _) rfl (by decide) (fun A F => ?_)
                      refine Sx.sv F (Sx.d_bin (v := .int .i64 4) F rfl rfl rfl (Sx.i_addS (by decide))) (Sx.wanted_none rfl _) rfl (by decide) (fun A F => ?_)
                      refine Sx.sv F (Sx.d_move F (Or.inr rfl) rfl) (Sx.wanted_none rfl _) rfl (by decide) (fun A F => ?_)
                      refine Sx.nil ?_
                      try dsimp only [Exit.then]
                      rw [rounds_succ]
                      refine Sx.seq (fun K85 hK85 => ?_)
                      refine Sx.seq (fun K86 hK86 => ?_)
                      refine Sx.plain ?_
                      refine Sx.sv F (Sx.d_move F (Or.inl rfl) rfl) (Sx.wanted_none rfl _) rfl (by decide) (fun A F => ?_)
                      refine Sx.sv F (Sx.d_bin (v := .bool false) F rfl rfl rfl (Sx.i_lt (by decide))) (Sx.wanted_none rfl _) rfl (by decide) (fun A F => ?_)
                      refine Sx.nil ?_
                      refine hK86 _ _ ?_
                      refine Sx.condF F rfl ?_
                      refine wp_exit ?_
                      try dsimp only [Exit.then, Exit.jump]
                      refine Sx.exit_here ?_
                      refine hK5 _ _ ?_
                      refine Sx.seq (fun K87 hK87 => ?_)
                      refine Sx.plain ?_
                      refine Sx.sv F (Sx.d_load (i := 0) (xs := [.int .u64 ((n00 % 4294967296#64).toNat), .int .u64 ((n10 % 4294967296#64).toNat), .int .u64 ((n20 % 4294967296#64).toNat), .int .u64 ((n30 % 4294967296#64).toNat)]) rw_92 F H rfl rfl rfl rfl rfl) (Sx.wanted_none rfl _) rfl (by decide) (fun A F => ?_)
                      refine Sx.sw F (Sx.d_call (vs := [.agg #[.int .u64 ((n00 % 4294967296#64).toNat), .int .u64 ((n10 % 4294967296#64).toNat), .int .u64 ((n20 % 4294967296#64).toNat), .int .u64 ((n30 % 4294967296#64).toNat)]]) (v := .agg #[.int .u64 ((Wd.hi (Wd.mk ((n20 % 4294967296#64) + 4294967296#64 * (n30 % 4294967296#64)) ((n00 % 4294967296#64) + 4294967296#64 * (n10 % 4294967296#64)))).toNat), .int .u64 ((Wd.lo (Wd.mk ((n20 % 4294967296#64) + 4294967296#64 * (n30 % 4294967296#64)) ((n00 % 4294967296#64) + 4294967296#64 * (n10 % 4294967296#64)))).toNat)]) if_57 F H rfl rfl (rwhole_c (n00 % 4294967296#64) (n10 % 4294967296#64) (n20 % 4294967296#64) (n30 % 4294967296#64) _)) (Sx.wanted_none rfl _) rfl (by decide) (fun A w F H => ?_)
                      refine Sx.ss F (Sx.d_store (i := 3) (xs := [.int .u64 ((Wd.hi (Wd.mk ((n20 % 4294967296#64) + 4294967296#64 * (n30 % 4294967296#64)) ((n00 % 4294967296#64) + 4294967296#64 * (n10 % 4294967296#64)))).toNat), .int .u64 ((Wd.lo (Wd.mk ((n20 % 4294967296#64) + 4294967296#64 * (n30 % 4294967296#64)) ((n00 % 4294967296#64) + 4294967296#64 * (n10 % 4294967296#64)))).toNat)]) (us := [.int .u64 ((Wd.hi (Wd.mk ((n20 % 4294967296#64) + 4294967296#64 * (n30 % 4294967296#64)) ((n00 % 4294967296#64) + 4294967296#64 * (n10 % 4294967296#64)))).toNat), .int .u64 ((Wd.lo (Wd.mk ((n20 % 4294967296#64) + 4294967296#64 * (n30 % 4294967296#64)) ((n00 % 4294967296#64) + 4294967296#64 * (n10 % 4294967296#64)))).toNat)]) sz_43 F H rfl rfl rfl rfl rfl rfl rfl (Nat.le_of_ble_eq_true rfl) rfl) (Sx.wanted_none rfl _) rfl (fun A w F (H : Sx.Own w0 _ [(true, g6, [.int .u64 ((n00 % 4294967296#64).toNat), .int .u64 ((n10 % 4294967296#64).toNat), .int .u64 ((n20 % 4294967296#64).toNat), .int .u64 ((n30 % 4294967296#64).toNat)]), (true, g5, [.int .u64 ((Wd.lo db % 4294967296#64).toNat), .int .u64 ((Wd.lo db / 4294967296#64).toNat), .int .u64 ((Wd.hi db % 4294967296#64).toNat), .int .u64 ((Wd.hi db / 4294967296#64).toNat)]), (true, g4, [.int .u64 ((Wd.lo da % 4294967296#64).toNat), .int .u64 ((Wd.lo da / 4294967296#64).toNat), .int .u64 ((Wd.hi da % 4294967296#64).toNat), .int .u64 ((Wd.hi da / 4294967296#64).toNat)]), (true, g3, [.int .u64 ((Wd.hi (Wd.mk ((n20 % 4294967296#64) + 4294967296#64 * (n30 % 4294967296#64)) ((n00 % 4294967296#64) + 4294967296#64 * (n10 % 4294967296#64)))).toNat), .int .u64 ((Wd.lo (Wd.mk ((n20 % 4294967296#64) + 4294967296#64 * (n30 % 4294967296#64)) ((n00 % 4294967296#64) + 4294967296#64 * (n10 % 4294967296#64)))).toNat)]), (true, g2, [.int .u64 ((Wd.hi db).toNat), .int .u64 ((Wd.lo db).toNat)]), (true, g1, [.int .u64 ((Wd.hi da).toNat), .int .u64 ((Wd.lo da).toNat)])] []) => ?_)
                      refine Sx.nil ?_
                      refine hK87 _ _ ?_
                      refine wp_ret ?_
                      try dsimp only [Exit.then, Exit.inBlock, Exit.jump]
                      refine Sx.ret1 F Try.results27 (Sx.res_row (i := 3) (xs := [.int .u64 ((Wd.hi (Wd.mk ((n20 % 4294967296#64) + 4294967296#64 * (n30 % 4294967296#64)) ((n00 % 4294967296#64) + 4294967296#64 * (n10 % 4294967296#64)))).toNat), .int .u64 ((Wd.lo (Wd.mk ((n20 % 4294967296#64) + 4294967296#64 * (n30 % 4294967296#64)) ((n00 % 4294967296#64) + 4294967296#64 * (n10 % 4294967296#64)))).toNat)]) rw_43 F H rfl rfl rfl rfl) ⟨?_, H.below⟩
                      rw [R1.mul_dig da db n00 n01 n02 n03 n10 n11 n12 n20 n21 n30 hn00 hn01 hn02 hn03 hn10 hn11 hn12 hn20 hn21 hn30]
end Go.Proofs.Ytpbdffmgendboab
