/- The reference's Sub walked. -/
import Derived.Test.YtpbdffmgendboabR1
namespace Go.Proofs.Ytpbdffmgendboab
open Go Go.RowKit
set_option maxHeartbeats 4000000 in
set_option maxRecDepth 100000 in
theorem rsub_c (da db : BitVec 128) (w0 : World) : Calls Try.prog 24 #[.agg #[.int .u64 ((Wd.hi da).toNat), .int .u64 ((Wd.lo da).toNat)], .agg #[.int .u64 ((Wd.hi db).toNat), .int .u64 ((Wd.lo db).toNat)]] w0 fun e w' => e = .returned (.tuple #[.agg #[.int .u64 ((Wd.hi (da - db)).toNat), .int .u64 ((Wd.lo (da - db)).toNat)], .bool (Wd.less da db)]) ∧ Below w0.heap.size w0 w' := by
  refine Sx.enter (args := [.agg #[.int .u64 ((Wd.hi da).toNat), .int .u64 ((Wd.lo da).toNat)], .agg #[.int .u64 ((Wd.hi db).toNat), .int .u64 ((Wd.lo db).toNat)]]) Try.func24 rfl Try.ntmps24 (Nat.le_of_ble_eq_true rfl) (fun A F => ?_)
  have H := Sx.Own.start w0
  refine Sx.seq (fun K1 hK1 => ?_)
  refine Sx.plain ?_
  refine Sx.sb F (Sx.d_box F H rfl rfl [.int .u64 ((Wd.hi da).toNat), .int .u64 ((Wd.lo da).toNat)] rfl) (Sx.wanted_none rfl _) rfl (by decide) (fun g1 A w F H => ?_)
  refine Sx.sb F (Sx.d_box F H rfl rfl [.int .u64 ((Wd.hi db).toNat), .int .u64 ((Wd.lo db).toNat)] rfl) (Sx.wanted_none rfl _) rfl (by decide) (fun g2 A w F H => ?_)
  refine Sx.sb F (Sx.d_alloc H rfl [.int .u64 ((Wd.hi 0#128).toNat), .int .u64 ((Wd.lo 0#128).toNat)] zero_43) (Sx.wanted_none rfl _) rfl (by decide) (fun g3 A w F H => ?_)
  refine Sx.sv F (Sx.d_move F (Or.inr rfl) rfl) (Sx.wanted_none rfl _) rfl (by decide) (fun A F => ?_)
  refine Sx.nil ?_
  refine hK1 _ _ ?_
  refine Sx.seq (fun K2 hK2 => ?_)
  refine Sx.plain ?_
  refine Sx.sv F (Sx.d_load (i := 1) (xs := [.int .u64 ((Wd.hi db).toNat), .int .u64 ((Wd.lo db).toNat)]) rw_43 F H rfl rfl rfl rfl rfl) (Sx.wanted_none rfl _) rfl (by decide) (fun A F => ?_)
  refine Sx.sw F (Sx.d_call (vs := [.agg #[.int .u64 ((Wd.hi db).toNat), .int .u64 ((Wd.lo db).toNat)]]) (v := .agg #[.int .u64 ((Wd.lo db % 4294967296#64).toNat), .int .u64 ((Wd.lo db / 4294967296#64).toNat), .int .u64 ((Wd.hi db % 4294967296#64).toNat), .int .u64 ((Wd.hi db / 4294967296#64).toNat)]) if_56 F H rfl rfl (rdigits_c db _)) (Sx.wanted_none rfl _) rfl (by decide) (fun A w F H => ?_)
  refine Sx.sb F (Sx.d_alloc H rfl [.int .u64 0, .int .u64 0, .int .u64 0, .int .u64 0] zero_92) (Sx.wanted_none rfl _) rfl (by decide) (fun g4 A w F H => ?_)
  refine Sx.ss F (Sx.d_store (i := 0) (xs := [.int .u64 ((Wd.lo db % 4294967296#64).toNat), .int .u64 ((Wd.lo db / 4294967296#64).toNat), .int .u64 ((Wd.hi db % 4294967296#64).toNat), .int .u64 ((Wd.hi db / 4294967296#64).toNat)]) (us := [.int .u64 ((Wd.lo db % 4294967296#64).toNat), .int .u64 ((Wd.lo db / 4294967296#64).toNat), .int .u64 ((Wd.hi db % 4294967296#64).toNat), .int .u64 ((Wd.hi db / 4294967296#64).toNat)]) sz_92 F H rfl rfl rfl rfl rfl rfl rfl (Nat.le_of_ble_eq_true rfl) rfl) (Sx.wanted_none rfl _) rfl (fun A w F (H : Sx.Own w0 _ [(true, g4, [.int .u64 ((Wd.lo db % 4294967296#64).toNat), .int .u64 ((Wd.lo db / 4294967296#64).toNat), .int .u64 ((Wd.hi db % 4294967296#64).toNat), .int .u64 ((Wd.hi db / 4294967296#64).toNat)]), (true, g3, [.int .u64 ((Wd.hi 0#128).toNat), .int .u64 ((Wd.lo 0#128).toNat)]), (true, g2, [.int .u64 ((Wd.hi db).toNat), .int .u64 ((Wd.lo db).toNat)]), (true, g1, [.int .u64 ((Wd.hi da).toNat), .int .u64 ((Wd.lo da).toNat)])] []) => ?_)
  refine Sx.nil ?_
  refine hK2 _ _ ?_
  refine Sx.seq (fun K3 hK3 => ?_)
  refine Sx.seq (fun K4 hK4 => ?_)
  refine Sx.plain ?_
  refine Sx.sv F (Sx.d_move F (Or.inr rfl) rfl) (Sx.wanted_none rfl _) rfl (by decide) (fun A F => ?_)
  refine Sx.nil ?_
  refine hK4 _ _ ?_
  refine wp_block ?_
  refine wp_loop_rounds 5 ?_
  try dsimp only [Exit.then]
  rw [rounds_succ]
  refine Sx.seq (fun K5 hK5 => ?_)
  refine Sx.seq (fun K6 hK6 => ?_)
  refine Sx.plain ?_
  refine Sx.sv F (Sx.d_move F (Or.inl rfl) rfl) (Sx.wanted_none rfl _) rfl (by decide) (fun A F => ?_)
  refine Sx.sv F (Sx.d_bin (v := .bool true) F rfl rfl rfl (Sx.i_lt (by decide))) (Sx.wanted_none rfl _) rfl (by decide) (fun A F => ?_)
  refine Sx.nil ?_
  refine hK6 _ _ ?_
  refine Sx.condT F rfl ?_
  refine wp_skip ?_
  refine hK5 _ _ ?_
  refine Sx.seq (fun K7 hK7 => ?_)
  refine wp_block ?_
  refine Sx.plain ?_
  refine Sx.sv F (Sx.d_move F (Or.inl rfl) rfl) (Sx.wanted_none rfl _) rfl (by decide) (fun A F => ?_)
  refine Sx.sv F (Sx.d_move F (Or.inl rfl) rfl) (Sx.wanted_none rfl _) rfl (by decide) (fun A F => ?_)
  refine Sx.sv F (Sx.d_iaddr (v := .pointer (some ⟨g4, 0, none⟩)) F rfl rfl rfl (by kernel_rfl)) (Sx.wanted_none rfl _) rfl (by decide) (fun A F => ?_)
  refine Sx.sv F (Sx.d_load1 (i := 0) (v := .int .u64 ((Wd.lo db % 4294967296#64).toNat)) one_22 F H rfl rfl rfl rfl) (Sx.wanted_none rfl _) rfl (by decide) (fun A F => ?_)
  refine Sx.sv F (Sx.d_bin (v := .int .u64 ((4294967295#64 - (Wd.lo db % 4294967296#64)).toNat)) F rfl rfl rfl (Sx.i_sub64 4294967295#64 (Wd.lo db % 4294967296#64))) (Sx.wanted_none rfl _) rfl (by decide) (fun A F => ?_)
  refine Sx.sv F (Sx.d_iaddr (v := .pointer (some ⟨g4, 0, none⟩)) F rfl rfl rfl (by kernel_rfl)) (Sx.wanted_none rfl _) rfl (by decide) (fun A F => ?_)
  refine Sx.ss F (Sx.d_store (i := 0) (xs := [.int .u64 ((4294967295#64 - (Wd.lo db % 4294967296#64)).toNat)]) (us := [.int .u64 ((4294967295#64 - (Wd.lo db % 4294967296#64)).toNat), .int .u64 ((Wd.lo db / 4294967296#64).toNat), .int .u64 ((Wd.hi db % 4294967296#64).toNat), .int .u64 ((Wd.hi db / 4294967296#64).toNat)]) sz_22 F H rfl rfl rfl rfl rfl rfl rfl (Nat.le_of_ble_eq_true rfl) rfl) (Sx.wanted_none rfl _) rfl (fun A w F (H : Sx.Own w0 _ [(true, g4, [.int .u64 ((4294967295#64 - (Wd.lo db % 4294967296#64)).toNat), .int .u64 ((Wd.lo db / 4294967296#64).toNat), .int .u64 ((Wd.hi db % 4294967296#64).toNat), .int .u64 ((Wd.hi db / 4294967296#64).toNat)]), (true, g3, [.int .u64 ((Wd.hi 0#128).toNat), .int .u64 ((Wd.lo 0#128).toNat)]), (true, g2, [.int .u64 ((Wd.hi db).toNat), .int .u64 ((Wd.lo db).toNat)]), (true, g1, [.int .u64 ((Wd.hi da).toNat), .int .u64 ((Wd.lo da).toNat)])] []) => ?_)
  refine Sx.nil ?_
  refine hK7 _ _ ?_
  refine Sx.plain ?_
  refine Sx.sv F (Sx.d_move F (Or.inl rfl) rfl) (Sx.wanted_none rfl _) rfl (by decide) (fun A F => ?_)
  refine Sx.sv F (Sx.d_bin (v := .int .i64 1) F rfl rfl rfl (Sx.i_addS (by decide))) (Sx.wanted_none rfl _) rfl (by decide) (fun A F => ?_)
  refine Sx.sv F (Sx.d_move F (Or.inr rfl) rfl) (Sx.wanted_none rfl _) rfl (by decide) (fun A F => ?_)
  refine Sx.nil ?_
  try dsimp only [Exit.then]
  rw [rounds_succ]
  refine Sx.seq (fun K8 hK8 => ?_)
  refine Sx.seq (fun K9 hK9 => ?_)
  refine Sx.plain ?_
  refine Sx.sv F (Sx.d_move F (Or.inl rfl) rfl) (Sx.wanted_none rfl _) rfl (by decide) (fun A F => ?_)
  refine Sx.sv F (Sx.d_bin (v := .bool true) F rfl rfl rfl (Sx.i_lt (by decide))) (Sx.wanted_none rfl _) rfl (by decide) (fun A F => ?_)
  refine Sx.nil ?_
  refine hK9 _ _ ?_
  refine Sx.condT F rfl ?_
  refine wp_skip ?_
  refine hK8 _ _ ?_
  refine Sx.seq (fun K10 hK10 => ?_)
  refine wp_block ?_
  refine Sx.plain ?_
  refine Sx.sv F (Sx.d_move F (Or.inl rfl) rfl) (Sx.wanted_none rfl _) rfl (by decide) (fun A F => ?_)
  refine Sx.sv F (Sx.d_move F (Or.inl rfl) rfl) (Sx.wanted_none rfl _) rfl (by decide) (fun A F => ?_)
  refine Sx.sv F (Sx.d_iaddr (v := .pointer (some ⟨g4, 1, none⟩)) F rfl rfl rfl (by kernel_rfl)) (Sx.wanted_none rfl _) rfl (by decide) (fun A F => ?_)
  refine Sx.sv F (Sx.d_load1 (i := 0) (v := .int .u64 ((Wd.lo db / 4294967296#64).toNat)) one_22 F H rfl rfl rfl rfl) (Sx.wanted_none rfl _) rfl (by decide) (fun A F => ?_)
  refine Sx.sv F (Sx.d_bin (v := .int .u64 ((4294967295#64 - (Wd.lo db / 4294967296#64)).toNat)) F rfl rfl rfl (Sx.i_sub64 4294967295#64 (Wd.lo db / 4294967296#64))) (Sx.wanted_none rfl _) rfl (by decide) (fun A F => ?_)
  refine Sx.sv F (Sx.d_iaddr (v := .pointer (some ⟨g4, 1, none⟩)) F rfl rfl rfl (by kernel_rfl)) (Sx.wanted_none rfl _) rfl (by decide) (fun A F => ?_)
  refine Sx.ss F (Sx.d_store (i := 0) (xs := [.int .u64 ((4294967295#64 - (Wd.lo db / 4294967296#64)).toNat)]) (us := [.int .u64 ((4294967295#64 - (Wd.lo db % 4294967296#64)).toNat), .int .u64 ((4294967295#64 - (Wd.lo db / 4294967296#64)).toNat), .int .u64 ((Wd.hi db % 4294967296#64).toNat), .int .u64 ((Wd.hi db / 4294967296#64).toNat)]) sz_22 F H rfl rfl rfl rfl rfl rfl rfl (Nat.le_of_ble_eq_true rfl) rfl) (Sx.wanted_none rfl _) rfl (fun A w F (H : Sx.Own w0 _ [(true, g4, [.int .u64 ((4294967295#64 - (Wd.lo db % 4294967296#64)).toNat), .int .u64 ((4294967295#64 - (Wd.lo db / 4294967296#64)).toNat), .int .u64 ((Wd.hi db % 4294967296#64).toNat), .int .u64 ((Wd.hi db / 4294967296#64).toNat)]), (true, g3, [.int .u64 ((Wd.hi 0#128).toNat), .int .u64 ((Wd.lo 0#128).toNat)]), (true, g2, [.int .u64 ((Wd.hi db).toNat), .int .u64 ((Wd.lo db).toNat)]), (true, g1, [.int .u64 ((Wd.hi da).toNat), .int .u64 ((Wd.lo da).toNat)])] []) => ?_)
  refine Sx.nil ?_
  refine hK10 _ _ ?_
  refine Sx.plain ?_
  refine Sx.sv F (Sx.d_move F (Or.inl rfl) rfl) (Sx.wanted_none rfl _) rfl (by decide) (fun A F => ?_)
  refine Sx.sv F (Sx.d_bin (v := .int .i64 2) F rfl rfl rfl (Sx.i_addS (by decide))) (Sx.wanted_none rfl _) rfl (by decide) (fun A F => ?_)
  refine Sx.sv F (Sx.d_move F (Or.inr rfl) rfl) (Sx.wanted_none rfl _) rfl (by decide) (fun A F => ?_)
  refine Sx.nil ?_
  try dsimp only [Exit.then]
  rw [rounds_succ]
  refine Sx.seq (fun K11 hK11 => ?_)
  refine Sx.seq (fun K12 hK12 => ?_)
  refine Sx.plain ?_
  refine Sx.sv F (Sx.d_move F (Or.inl rfl) rfl) (Sx.wanted_none rfl _) rfl (by decide) (fun A F => ?_)
  refine Sx.sv F (Sx.d_bin (v := .bool true) F rfl rfl rfl (Sx.i_lt (by decide))) (Sx.wanted_none rfl _) rfl (by decide) (fun A F => ?_)
  refine Sx.nil ?_
  refine hK12 _ _ ?_
  refine Sx.condT F rfl ?_
  refine wp_skip ?_
  refine hK11 _ _ ?_
  refine Sx.seq (fun K13 hK13 => ?_)
  refine wp_block ?_
  refine Sx.plain ?_
  refine Sx.sv F (Sx.d_move F (Or.inl rfl) rfl) (Sx.wanted_none rfl _) rfl (by decide) (fun A F => ?_)
  refine Sx.sv F (Sx.d_move F (Or.inl rfl) rfl) (Sx.wanted_none rfl _) rfl (by decide) (fun A F => ?_)
  refine Sx.sv F (Sx.d_iaddr (v := .pointer (some ⟨g4, 2, none⟩)) F rfl rfl rfl (by kernel_rfl)) (Sx.wanted_none rfl _) rfl (by decide) (fun A F => ?_)
  refine Sx.sv F (Sx.d_load1 (i := 0) (v := .int .u64 ((Wd.hi db % 4294967296#64).toNat)) one_22 F H rfl rfl rfl rfl) (Sx.wanted_none rfl _) rfl (by decide) (fun A F => ?_)
  refine Sx.sv F (Sx.d_bin (v := .int .u64 ((4294967295#64 - (Wd.hi db % 4294967296#64)).toNat)) F rfl rfl rfl (Sx.i_sub64 4294967295#64 (Wd.hi db % 4294967296#64))) (Sx.wanted_none rfl _) rfl (by decide) (fun A F => ?_)
  refine Sx.sv F (Sx.d_iaddr (v := .pointer (some ⟨g4, 2, none⟩)) F rfl rfl rfl (by kernel_rfl)) (Sx.wanted_none rfl _) rfl (by decide) (fun A F => ?_)
  refine Sx.ss F (Sx.d_store (i := 0) (xs := [.int .u64 ((4294967295#64 - (Wd.hi db % 4294967296#64)).toNat)]) (us := [.int .u64 ((4294967295#64 - (Wd.lo db % 4294967296#64)).toNat), .int .u64 ((4294967295#64 - (Wd.lo db / 4294967296#64)).toNat), .int .u64 ((4294967295#64 - (Wd.hi db % 4294967296#64)).toNat), .int .u64 ((Wd.hi db / 4294967296#64).toNat)]) sz_22 F H rfl rfl rfl rfl rfl rfl rfl (Nat.le_of_ble_eq_true rfl) rfl) (Sx.wanted_none rfl _) rfl (fun A w F (H : Sx.Own w0 _ [(true, g4, [.int .u64 ((4294967295#64 - (Wd.lo db % 4294967296#64)).toNat), .int .u64 ((4294967295#64 - (Wd.lo db / 4294967296#64)).toNat), .int .u64 ((4294967295#64 - (Wd.hi db % 4294967296#64)).toNat), .int .u64 ((Wd.hi db / 4294967296#64).toNat)]), (true, g3, [.int .u64 ((Wd.hi 0#128).toNat), .int .u64 ((Wd.lo 0#128).toNat)]), (true, g2, [.int .u64 ((Wd.hi db).toNat), .int .u64 ((Wd.lo db).toNat)]), (true, g1, [.int .u64 ((Wd.hi da).toNat), .int .u64 ((Wd.lo da).toNat)])] []) => ?_)
  refine Sx.nil ?_
  refine hK13 _ _ ?_
  refine Sx.plain ?_
  refine Sx.sv F (Sx.d_move F (Or.inl rfl) rfl) (Sx.wanted_none rfl _) rfl (by decide) (fun A F => ?_)
  refine Sx.sv F (Sx.d_bin (v := .int .i64 3) F rfl rfl rfl (Sx.i_addS (by decide))) (Sx.wanted_none rfl _) rfl (by decide) (fun A F => ?_)
  refine Sx.sv F (Sx.d_move F (Or.inr rfl) rfl) (Sx.wanted_none rfl _) rfl (by decide) (fun A F => ?_)
  refine Sx.nil ?_
  try dsimp only [Exit.then]
  rw [rounds_succ]
  refine Sx.seq (fun K14 hK14 => ?_)
  refine Sx.seq (fun K15 hK15 => ?_)
  refine Sx.plain ?_
  refine Sx.sv F (Sx.d_move F (Or.inl rfl) rfl) (Sx.wanted_none rfl _) rfl (by decide) (fun A F => ?_)
  refine Sx.sv F (Sx.d_bin (v := .bool true) F rfl rfl rfl (Sx.i_lt (by decide))) (Sx.wanted_none rfl _) rfl (by decide) (fun A F => ?_)
  refine Sx.nil ?_
  refine hK15 _ _ ?_
  refine Sx.condT F rfl ?_
  refine wp_skip ?_
  refine hK14 _ _ ?_
  refine Sx.seq (fun K16 hK16 => ?_)
  refine wp_block ?_
  refine Sx.plain ?_
  refine Sx.sv F (Sx.d_move F (Or.inl rfl) rfl) (Sx.wanted_none rfl _) rfl (by decide) (fun A F => ?_)
  refine Sx.sv F (Sx.d_move F (Or.inl rfl) rfl) (Sx.wanted_none rfl _) rfl (by decide) (fun A F => ?_)
  refine Sx.sv F (Sx.d_iaddr (v := .pointer (some ⟨g4, 3, none⟩)) F rfl rfl rfl (by kernel_rfl)) (Sx.wanted_none rfl _) rfl (by decide) (fun A F => ?_)
  refine Sx.sv F (Sx.d_load1 (i := 0) (v := .int .u64 ((Wd.hi db / 4294967296#64).toNat)) one_22 F H rfl rfl rfl rfl) (Sx.wanted_none rfl _) rfl (by decide) (fun A F => ?_)
  refine Sx.sv F (Sx.d_bin (v := .int .u64 ((4294967295#64 - (Wd.hi db / 4294967296#64)).toNat)) F rfl rfl rfl (Sx.i_sub64 4294967295#64 (Wd.hi db / 4294967296#64))) (Sx.wanted_none rfl _) rfl (by decide) (fun A F => ?_)
  refine Sx.sv F (Sx.d_iaddr (v := .pointer (some ⟨g4, 3, none⟩)) F rfl rfl rfl (by kernel_rfl)) (Sx.wanted_none rfl _) rfl (by decide) (fun A F => ?_)
  refine Sx.ss F (Sx.d_store (i := 0) (xs := [.int .u64 ((4294967295#64 - (Wd.hi db / 4294967296#64)).toNat)]) (us := [.int .u64 ((4294967295#64 - (Wd.lo db % 4294967296#64)).toNat), .int .u64 ((4294967295#64 - (Wd.lo db / 4294967296#64)).toNat), .int .u64 ((4294967295#64 - (Wd.hi db % 4294967296#64)).toNat), .int .u64 ((4294967295#64 - (Wd.hi db / 4294967296#64)).toNat)]) sz_22 F H rfl rfl rfl rfl rfl rfl rfl (Nat.le_of_ble_eq_true rfl) rfl) (Sx.wanted_none rfl _) rfl (fun A w F (H : Sx.Own w0 _ [(true, g4, [.int .u64 ((4294967295#64 - (Wd.lo db % 4294967296#64)).toNat), .int .u64 ((4294967295#64 - (Wd.lo db / 4294967296#64)).toNat), .int .u64 ((4294967295#64 - (Wd.hi db % 4294967296#64)).toNat), .int .u64 ((4294967295#64 - (Wd.hi db / 4294967296#64)).toNat)]), (true, g3, [.int .u64 ((Wd.hi 0#128).toNat), .int .u64 ((Wd.lo 0#128).toNat)]), (true, g2, [.int .u64 ((Wd.hi db).toNat), .int .u64 ((Wd.lo db).toNat)]), (true, g1, [.int .u64 ((Wd.hi da).toNat), .int .u64 ((Wd.lo da).toNat)])] []) => ?_)
  refine Sx.nil ?_
  refine hK16 _ _ ?_
  refine Sx.plain ?_
  refine Sx.sv F (Sx.d_move F (Or.inl rfl) rfl) (Sx.wanted_none rfl _) rfl (by decide) (fun A F => ?_)
  refine Sx.sv F (Sx.d_bin (v := .int .i64 4) F rfl rfl rfl (Sx.i_addS (by decide))) (Sx.wanted_none rfl _) rfl (by decide) (fun A F => ?_)
  refine Sx.sv F (Sx.d_move F (Or.inr rfl) rfl) (Sx.wanted_none rfl _) rfl (by decide) (fun A F => ?_)
  refine Sx.nil ?_
  try dsimp only [Exit.then]
  rw [rounds_succ]
  refine Sx.seq (fun K17 hK17 => ?_)
  refine Sx.seq (fun K18 hK18 => ?_)
  refine Sx.plain ?_
  refine Sx.sv F (Sx.d_move F (Or.inl rfl) rfl) (Sx.wanted_none rfl _) rfl (by decide) (fun A F => ?_)
  refine Sx.sv F (Sx.d_bin (v := .bool false) F rfl rfl rfl (Sx.i_lt (by decide))) (Sx.wanted_none rfl _) rfl (by decide) (fun A F => ?_)
  refine Sx.nil ?_
  refine hK18 _ _ ?_
  refine Sx.condF F rfl ?_
  refine wp_exit ?_
  try dsimp only [Exit.then, Exit.jump]
  refine Sx.exit_here ?_
  refine hK3 _ _ ?_
  refine Sx.seq (fun K19 hK19 => ?_)
  have F := Sx.Fr.to F (kv' := [(0, .agg #[.int .u64 ((Wd.hi da).toNat), .int .u64 ((Wd.lo da).toNat)]), (1, .agg #[.int .u64 ((Wd.hi db).toNat), .int .u64 ((Wd.lo db).toNat)]), (2, .pointer (some ⟨g1, 0, none⟩)), (3, .pointer (some ⟨g2, 0, none⟩)), (4, .pointer (some ⟨g3, 0, none⟩)), (5, .bool false), (12, .agg #[.int .u64 ((Wd.hi db).toNat), .int .u64 ((Wd.lo db).toNat)]), (13, .agg #[.int .u64 ((Wd.lo db % 4294967296#64).toNat), .int .u64 ((Wd.lo db / 4294967296#64).toNat), .int .u64 ((Wd.hi db % 4294967296#64).toNat), .int .u64 ((Wd.hi db / 4294967296#64).toNat)]), (6, .pointer (some ⟨g4, 0, none⟩)), (7, .int .i64 4), (14, .int .i64 4), (15, .bool false), (18, .int .i64 3), (19, .int .i64 3), (20, .pointer (some ⟨g4, 3, none⟩)), (21, .int .u64 ((Wd.hi db / 4294967296#64).toNat)), (22, .int .u64 ((4294967295#64 - (Wd.hi db / 4294967296#64)).toNat)), (23, .pointer (some ⟨g4, 3, none⟩)), (16, .int .i64 3), (17, .int .i64 4)]) ⟨rfl, rfl, rfl, rfl, rfl, rfl, rfl, rfl, rfl, rfl, rfl, rfl, rfl, rfl, rfl, rfl, rfl, rfl, rfl, rfl, trivial⟩
  refine Sx.drawn F (by kernel_rfl) (by kernel_rfl) (by kernel_rfl) [some (.agg #[.int .u64 ((Wd.hi da).toNat), .int .u64 ((Wd.lo da).toNat)]), some (.agg #[.int .u64 ((4294967295#64 - (Wd.lo db % 4294967296#64)).toNat), .int .u64 ((4294967295#64 - (Wd.lo db / 4294967296#64)).toNat), .int .u64 ((4294967295#64 - (Wd.hi db % 4294967296#64)).toNat), .int .u64 ((4294967295#64 - (Wd.hi db / 4294967296#64)).toNat)]), some (.agg #[.int .u64 ((Wd.hi (Wd.mk ((4294967295#64 - (Wd.hi db % 4294967296#64)) + 4294967296#64 * (4294967295#64 - (Wd.hi db / 4294967296#64))) ((4294967295#64 - (Wd.lo db % 4294967296#64)) + 4294967296#64 * (4294967295#64 - (Wd.lo db / 4294967296#64))))).toNat), .int .u64 ((Wd.lo (Wd.mk ((4294967295#64 - (Wd.hi db % 4294967296#64)) + 4294967296#64 * (4294967295#64 - (Wd.hi db / 4294967296#64))) ((4294967295#64 - (Wd.lo db % 4294967296#64)) + 4294967296#64 * (4294967295#64 - (Wd.lo db / 4294967296#64))))).toNat)]), some (.tuple #[.agg #[.int .u64 ((Wd.hi (da + (Wd.mk ((4294967295#64 - (Wd.hi db % 4294967296#64)) + 4294967296#64 * (4294967295#64 - (Wd.hi db / 4294967296#64))) ((4294967295#64 - (Wd.lo db % 4294967296#64)) + 4294967296#64 * (4294967295#64 - (Wd.lo db / 4294967296#64)))))).toNat), .int .u64 ((Wd.lo (da + (Wd.mk ((4294967295#64 - (Wd.hi db % 4294967296#64)) + 4294967296#64 * (4294967295#64 - (Wd.hi db / 4294967296#64))) ((4294967295#64 - (Wd.lo db % 4294967296#64)) + 4294967296#64 * (4294967295#64 - (Wd.lo db / 4294967296#64)))))).toNat)], .bool (Wd.over da (Wd.mk ((4294967295#64 - (Wd.hi db % 4294967296#64)) + 4294967296#64 * (4294967295#64 - (Wd.hi db / 4294967296#64))) ((4294967295#64 - (Wd.lo db % 4294967296#64)) + 4294967296#64 * (4294967295#64 - (Wd.lo db / 4294967296#64)))))]), some (.tuple #[.agg #[.int .u64 ((Wd.hi (da + (Wd.mk ((4294967295#64 - (Wd.hi db % 4294967296#64)) + 4294967296#64 * (4294967295#64 - (Wd.hi db / 4294967296#64))) ((4294967295#64 - (Wd.lo db % 4294967296#64)) + 4294967296#64 * (4294967295#64 - (Wd.lo db / 4294967296#64)))))).toNat), .int .u64 ((Wd.lo (da + (Wd.mk ((4294967295#64 - (Wd.hi db % 4294967296#64)) + 4294967296#64 * (4294967295#64 - (Wd.hi db / 4294967296#64))) ((4294967295#64 - (Wd.lo db % 4294967296#64)) + 4294967296#64 * (4294967295#64 - (Wd.lo db / 4294967296#64)))))).toNat)], .bool (Wd.over da (Wd.mk ((4294967295#64 - (Wd.hi db % 4294967296#64)) + 4294967296#64 * (4294967295#64 - (Wd.hi db / 4294967296#64))) ((4294967295#64 - (Wd.lo db % 4294967296#64)) + 4294967296#64 * (4294967295#64 - (Wd.lo db / 4294967296#64)))))]), some (.agg #[.int .u64 ((Wd.hi (da + (Wd.mk ((4294967295#64 - (Wd.hi db % 4294967296#64)) + 4294967296#64 * (4294967295#64 - (Wd.hi db / 4294967296#64))) ((4294967295#64 - (Wd.lo db % 4294967296#64)) + 4294967296#64 * (4294967295#64 - (Wd.lo db / 4294967296#64)))))).toNat), .int .u64 ((Wd.lo (da + (Wd.mk ((4294967295#64 - (Wd.hi db % 4294967296#64)) + 4294967296#64 * (4294967295#64 - (Wd.hi db / 4294967296#64))) ((4294967295#64 - (Wd.lo db % 4294967296#64)) + 4294967296#64 * (4294967295#64 - (Wd.lo db / 4294967296#64)))))).toNat)]), some (.bool (Wd.over da (Wd.mk ((4294967295#64 - (Wd.hi db % 4294967296#64)) + 4294967296#64 * (4294967295#64 - (Wd.hi db / 4294967296#64))) ((4294967295#64 - (Wd.lo db % 4294967296#64)) + 4294967296#64 * (4294967295#64 - (Wd.lo db / 4294967296#64)))))), none, none, some (.bool (Wd.over da (Wd.mk ((4294967295#64 - (Wd.hi db % 4294967296#64)) + 4294967296#64 * (4294967295#64 - (Wd.hi db / 4294967296#64))) ((4294967295#64 - (Wd.lo db % 4294967296#64)) + 4294967296#64 * (4294967295#64 - (Wd.lo db / 4294967296#64))))))] (fun L A w => ∃ g5 : Nat, (L 7 = true → A.eval (.tmp 8) = .pointer (some ⟨g5, 0, none⟩)) ∧ Sx.Own w0 w [(true, g4, [.int .u64 ((4294967295#64 - (Wd.lo db % 4294967296#64)).toNat), .int .u64 ((4294967295#64 - (Wd.lo db / 4294967296#64)).toNat), .int .u64 ((4294967295#64 - (Wd.hi db % 4294967296#64)).toNat), .int .u64 ((4294967295#64 - (Wd.hi db / 4294967296#64)).toNat)]), (true, g3, [.int .u64 ((Wd.hi 0#128).toNat), .int .u64 ((Wd.lo 0#128).toNat)]), (true, g2, [.int .u64 ((Wd.hi db).toNat), .int .u64 ((Wd.lo db).toNat)]), (true, g1, [.int .u64 ((Wd.hi da).toNat), .int .u64 ((Wd.lo da).toNat)]), (L 7, g5, (cond (L 8) [.int .u64 ((Wd.hi (da + (Wd.mk ((4294967295#64 - (Wd.hi db % 4294967296#64)) + 4294967296#64 * (4294967295#64 - (Wd.hi db / 4294967296#64))) ((4294967295#64 - (Wd.lo db % 4294967296#64)) + 4294967296#64 * (4294967295#64 - (Wd.lo db / 4294967296#64)))))).toNat), .int .u64 ((Wd.lo (da + (Wd.mk ((4294967295#64 - (Wd.hi db % 4294967296#64)) + 4294967296#64 * (4294967295#64 - (Wd.hi db / 4294967296#64))) ((4294967295#64 - (Wd.lo db % 4294967296#64)) + 4294967296#64 * (4294967295#64 - (Wd.lo db / 4294967296#64)))))).toNat)] [.int .u64 ((Wd.hi 0#128).toNat), .int .u64 ((Wd.lo 0#128).toNat)]))] []) ⟨0, (fun h => by cases h), H.drew.pad [(false, 0, [.int .u64 ((Wd.hi 0#128).toNat), .int .u64 ((Wd.lo 0#128).toNat)])] rfl [] rfl⟩ ?_ ?_
  · refine ⟨?_, ?_, ?_, ?_, ?_, ?_, ?_, ?_, ?_, ?_, trivial⟩
    · show Sx.StepAt _ _ _ _ _ _ _ 0
      intro L A w up hun hd F ⟨g5, p7, H⟩
      have f8 : L 8 = false := up 8 0 rfl hun
      rw [f8] at H
      have F := Sx.Fr.to F (kv' := [(2, .pointer (some ⟨g1, 0, none⟩))]) ⟨rfl, trivial⟩
      refine Sx.step_on rfl (Sx.d_load (i := 3) (xs := [.int .u64 ((Wd.hi da).toNat), .int .u64 ((Wd.lo da).toNat)]) rw_43 F H rfl rfl rfl rfl rfl) ?_
      rintro xv w' ⟨hx, rfl⟩
      exact ⟨(fun cv hc => hx.trans (Option.some.inj (Option.some.inj hc))), ⟨g5, (fun h => (Sx.put_ne rfl _).trans (p7 h)), (by show Sx.Own _ _ _ _; rw [show Inv.add L 0 8 = false from f8]; exact H)⟩⟩
    · show Sx.StepAt _ _ _ _ _ _ _ 1
      intro L A w up hun hd F ⟨g5, p7, H⟩
      have f8 : L 8 = false := up 8 1 rfl hun
      rw [f8] at H
      have F := Sx.Fr.to F (kv' := [(6, .pointer (some ⟨g4, 0, none⟩))]) ⟨rfl, trivial⟩
      refine Sx.step_on rfl (Sx.d_load (i := 0) (xs := [.int .u64 ((4294967295#64 - (Wd.lo db % 4294967296#64)).toNat), .int .u64 ((4294967295#64 - (Wd.lo db / 4294967296#64)).toNat), .int .u64 ((4294967295#64 - (Wd.hi db % 4294967296#64)).toNat), .int .u64 ((4294967295#64 - (Wd.hi db / 4294967296#64)).toNat)]) rw_92 F H rfl rfl rfl rfl rfl) ?_
      rintro xv w' ⟨hx, rfl⟩
      exact ⟨(fun cv hc => hx.trans (Option.some.inj (Option.some.inj hc))), ⟨g5, (fun h => (Sx.put_ne rfl _).trans (p7 h)), (by show Sx.Own _ _ _ _; rw [show Inv.add L 1 8 = false from f8]; exact H)⟩⟩
    · show Sx.StepAt _ _ _ _ _ _ _ 2
      intro L A w up hun hd F ⟨g5, p7, H⟩
      have f8 : L 8 = false := up 8 2 rfl hun
      rw [f8] at H
      have F := Sx.Fr.to F (kv' := [(26, .agg #[.int .u64 ((4294967295#64 - (Wd.lo db % 4294967296#64)).toNat), .int .u64 ((4294967295#64 - (Wd.lo db / 4294967296#64)).toNat), .int .u64 ((4294967295#64 - (Wd.hi db % 4294967296#64)).toNat), .int .u64 ((4294967295#64 - (Wd.hi db / 4294967296#64)).toNat)])]) ⟨rfl, trivial⟩
      refine Sx.step_on rfl (Sx.d_call (vs := [.agg #[.int .u64 ((4294967295#64 - (Wd.lo db % 4294967296#64)).toNat), .int .u64 ((4294967295#64 - (Wd.lo db / 4294967296#64)).toNat), .int .u64 ((4294967295#64 - (Wd.hi db % 4294967296#64)).toNat), .int .u64 ((4294967295#64 - (Wd.hi db / 4294967296#64)).toNat)]]) (v := .agg #[.int .u64 ((Wd.hi (Wd.mk ((4294967295#64 - (Wd.hi db % 4294967296#64)) + 4294967296#64 * (4294967295#64 - (Wd.hi db / 4294967296#64))) ((4294967295#64 - (Wd.lo db % 4294967296#64)) + 4294967296#64 * (4294967295#64 - (Wd.lo db / 4294967296#64))))).toNat), .int .u64 ((Wd.lo (Wd.mk ((4294967295#64 - (Wd.hi db % 4294967296#64)) + 4294967296#64 * (4294967295#64 - (Wd.hi db / 4294967296#64))) ((4294967295#64 - (Wd.lo db % 4294967296#64)) + 4294967296#64 * (4294967295#64 - (Wd.lo db / 4294967296#64))))).toNat)]) if_57 F H rfl rfl (rwhole_c (4294967295#64 - (Wd.lo db % 4294967296#64)) (4294967295#64 - (Wd.lo db / 4294967296#64)) (4294967295#64 - (Wd.hi db % 4294967296#64)) (4294967295#64 - (Wd.hi db / 4294967296#64)) _)) ?_
      rintro xv w' ⟨hx, H⟩
      exact ⟨(fun cv hc => hx.trans (Option.some.inj (Option.some.inj hc))), ⟨g5, (fun h => (Sx.put_ne rfl _).trans (p7 h)), (by show Sx.Own _ _ _ _; rw [show Inv.add L 2 8 = false from f8]; exact H)⟩⟩
    · show Sx.StepAt _ _ _ _ _ _ _ 3
      intro L A w up hun hd F ⟨g5, p7, H⟩
      have f8 : L 8 = false := up 8 3 rfl hun
      rw [f8] at H
      have F := Sx.Fr.to F (kv' := [(25, .agg #[.int .u64 ((Wd.hi da).toNat), .int .u64 ((Wd.lo da).toNat)]), (27, .agg #[.int .u64 ((Wd.hi (Wd.mk ((4294967295#64 - (Wd.hi db % 4294967296#64)) + 4294967296#64 * (4294967295#64 - (Wd.hi db / 4294967296#64))) ((4294967295#64 - (Wd.lo db % 4294967296#64)) + 4294967296#64 * (4294967295#64 - (Wd.lo db / 4294967296#64))))).toNat), .int .u64 ((Wd.lo (Wd.mk ((4294967295#64 - (Wd.hi db % 4294967296#64)) + 4294967296#64 * (4294967295#64 - (Wd.hi db / 4294967296#64))) ((4294967295#64 - (Wd.lo db % 4294967296#64)) + 4294967296#64 * (4294967295#64 - (Wd.lo db / 4294967296#64))))).toNat)])]) ⟨rfl, rfl, trivial⟩
      refine Sx.step_on rfl (Sx.d_call (vs := [.agg #[.int .u64 ((Wd.hi da).toNat), .int .u64 ((Wd.lo da).toNat)], .agg #[.int .u64 ((Wd.hi (Wd.mk ((4294967295#64 - (Wd.hi db % 4294967296#64)) + 4294967296#64 * (4294967295#64 - (Wd.hi db / 4294967296#64))) ((4294967295#64 - (Wd.lo db % 4294967296#64)) + 4294967296#64 * (4294967295#64 - (Wd.lo db / 4294967296#64))))).toNat), .int .u64 ((Wd.lo (Wd.mk ((4294967295#64 - (Wd.hi db % 4294967296#64)) + 4294967296#64 * (4294967295#64 - (Wd.hi db / 4294967296#64))) ((4294967295#64 - (Wd.lo db % 4294967296#64)) + 4294967296#64 * (4294967295#64 - (Wd.lo db / 4294967296#64))))).toNat)]]) (v := .tuple #[.agg #[.int .u64 ((Wd.hi (da + (Wd.mk ((4294967295#64 - (Wd.hi db % 4294967296#64)) + 4294967296#64 * (4294967295#64 - (Wd.hi db / 4294967296#64))) ((4294967295#64 - (Wd.lo db % 4294967296#64)) + 4294967296#64 * (4294967295#64 - (Wd.lo db / 4294967296#64)))))).toNat), .int .u64 ((Wd.lo (da + (Wd.mk ((4294967295#64 - (Wd.hi db % 4294967296#64)) + 4294967296#64 * (4294967295#64 - (Wd.hi db / 4294967296#64))) ((4294967295#64 - (Wd.lo db % 4294967296#64)) + 4294967296#64 * (4294967295#64 - (Wd.lo db / 4294967296#64)))))).toNat)], .bool (Wd.over da (Wd.mk ((4294967295#64 - (Wd.hi db % 4294967296#64)) + 4294967296#64 * (4294967295#64 - (Wd.hi db / 4294967296#64))) ((4294967295#64 - (Wd.lo db % 4294967296#64)) + 4294967296#64 * (4294967295#64 - (Wd.lo db / 4294967296#64)))))]) if_23 F H rfl rfl (radd_c da (Wd.mk ((4294967295#64 - (Wd.hi db % 4294967296#64)) + 4294967296#64 * (4294967295#64 - (Wd.hi db / 4294967296#64))) ((4294967295#64 - (Wd.lo db % 4294967296#64)) + 4294967296#64 * (4294967295#64 - (Wd.lo db / 4294967296#64)))) _)) ?_
      rintro xv w' ⟨hx, H⟩
      exact ⟨(fun cv hc => hx.trans (Option.some.inj (Option.some.inj hc))), ⟨g5, (fun h => (Sx.put_ne rfl _).trans (p7 h)), (by show Sx.Own _ _ _ _; rw [show Inv.add L 3 8 = false from f8]; exact H)⟩⟩
    · show Sx.StepAt _ _ _ _ _ _ _ 4
      intro L A w up hun hd F ⟨g5, p7, H⟩
      have f8 : L 8 = false := up 8 4 rfl hun
      rw [f8] at H
      have F := Sx.Fr.to F (kv' := [(28, .tuple #[.agg #[.int .u64 ((Wd.hi (da + (Wd.mk ((4294967295#64 - (Wd.hi db % 4294967296#64)) + 4294967296#64 * (4294967295#64 - (Wd.hi db / 4294967296#64))) ((4294967295#64 - (Wd.lo db % 4294967296#64)) + 4294967296#64 * (4294967295#64 - (Wd.lo db / 4294967296#64)))))).toNat), .int .u64 ((Wd.lo (da + (Wd.mk ((4294967295#64 - (Wd.hi db % 4294967296#64)) + 4294967296#64 * (4294967295#64 - (Wd.hi db / 4294967296#64))) ((4294967295#64 - (Wd.lo db % 4294967296#64)) + 4294967296#64 * (4294967295#64 - (Wd.lo db / 4294967296#64)))))).toNat)], .bool (Wd.over da (Wd.mk ((4294967295#64 - (Wd.hi db % 4294967296#64)) + 4294967296#64 * (4294967295#64 - (Wd.hi db / 4294967296#64))) ((4294967295#64 - (Wd.lo db % 4294967296#64)) + 4294967296#64 * (4294967295#64 - (Wd.lo db / 4294967296#64)))))])]) ⟨rfl, trivial⟩
      refine Sx.step_on rfl (Sx.d_move F (Or.inl rfl) rfl) ?_
      rintro xv w' ⟨hx, rfl⟩
      exact ⟨(fun cv hc => hx.trans (Option.some.inj (Option.some.inj hc))), ⟨g5, (fun h => (Sx.put_ne rfl _).trans (p7 h)), (by show Sx.Own _ _ _ _; rw [show Inv.add L 4 8 = false from f8]; exact H)⟩⟩
    · show Sx.StepAt _ _ _ _ _ _ _ 5
      intro L A w up hun hd F ⟨g5, p7, H⟩
      have f8 : L 8 = false := up 8 5 rfl hun
      rw [f8] at H
      have F := Sx.Fr.to F (kv' := [(24, .tuple #[.agg #[.int .u64 ((Wd.hi (da + (Wd.mk ((4294967295#64 - (Wd.hi db % 4294967296#64)) + 4294967296#64 * (4294967295#64 - (Wd.hi db / 4294967296#64))) ((4294967295#64 - (Wd.lo db % 4294967296#64)) + 4294967296#64 * (4294967295#64 - (Wd.lo db / 4294967296#64)))))).toNat), .int .u64 ((Wd.lo (da + (Wd.mk ((4294967295#64 - (Wd.hi db % 4294967296#64)) + 4294967296#64 * (4294967295#64 - (Wd.hi db / 4294967296#64))) ((4294967295#64 - (Wd.lo db % 4294967296#64)) + 4294967296#64 * (4294967295#64 - (Wd.lo db / 4294967296#64)))))).toNat)], .bool (Wd.over da (Wd.mk ((4294967295#64 - (Wd.hi db % 4294967296#64)) + 4294967296#64 * (4294967295#64 - (Wd.hi db / 4294967296#64))) ((4294967295#64 - (Wd.lo db % 4294967296#64)) + 4294967296#64 * (4294967295#64 - (Wd.lo db / 4294967296#64)))))])]) ⟨rfl, trivial⟩
      refine Sx.step_on rfl (Sx.d_extract (v := .agg #[.int .u64 ((Wd.hi (da + (Wd.mk ((4294967295#64 - (Wd.hi db % 4294967296#64)) + 4294967296#64 * (4294967295#64 - (Wd.hi db / 4294967296#64))) ((4294967295#64 - (Wd.lo db % 4294967296#64)) + 4294967296#64 * (4294967295#64 - (Wd.lo db / 4294967296#64)))))).toNat), .int .u64 ((Wd.lo (da + (Wd.mk ((4294967295#64 - (Wd.hi db % 4294967296#64)) + 4294967296#64 * (4294967295#64 - (Wd.hi db / 4294967296#64))) ((4294967295#64 - (Wd.lo db % 4294967296#64)) + 4294967296#64 * (4294967295#64 - (Wd.lo db / 4294967296#64)))))).toNat)]) F rfl rfl rfl) ?_
      rintro xv w' ⟨hx, rfl⟩
      exact ⟨(fun cv hc => hx.trans (Option.some.inj (Option.some.inj hc))), ⟨g5, (fun h => (Sx.put_ne rfl _).trans (p7 h)), (by show Sx.Own _ _ _ _; rw [show Inv.add L 5 8 = false from f8]; exact H)⟩⟩
    · show Sx.StepAt _ _ _ _ _ _ _ 6
      intro L A w up hun hd F ⟨g5, p7, H⟩
      have F := Sx.Fr.to F (kv' := [(24, .tuple #[.agg #[.int .u64 ((Wd.hi (da + (Wd.mk ((4294967295#64 - (Wd.hi db % 4294967296#64)) + 4294967296#64 * (4294967295#64 - (Wd.hi db / 4294967296#64))) ((4294967295#64 - (Wd.lo db % 4294967296#64)) + 4294967296#64 * (4294967295#64 - (Wd.lo db / 4294967296#64)))))).toNat), .int .u64 ((Wd.lo (da + (Wd.mk ((4294967295#64 - (Wd.hi db % 4294967296#64)) + 4294967296#64 * (4294967295#64 - (Wd.hi db / 4294967296#64))) ((4294967295#64 - (Wd.lo db % 4294967296#64)) + 4294967296#64 * (4294967295#64 - (Wd.lo db / 4294967296#64)))))).toNat)], .bool (Wd.over da (Wd.mk ((4294967295#64 - (Wd.hi db % 4294967296#64)) + 4294967296#64 * (4294967295#64 - (Wd.hi db / 4294967296#64))) ((4294967295#64 - (Wd.lo db % 4294967296#64)) + 4294967296#64 * (4294967295#64 - (Wd.lo db / 4294967296#64)))))])]) ⟨rfl, trivial⟩
      refine Sx.step_on rfl (Sx.d_extract (v := .bool (Wd.over da (Wd.mk ((4294967295#64 - (Wd.hi db % 4294967296#64)) + 4294967296#64 * (4294967295#64 - (Wd.hi db / 4294967296#64))) ((4294967295#64 - (Wd.lo db % 4294967296#64)) + 4294967296#64 * (4294967295#64 - (Wd.lo db / 4294967296#64)))))) F rfl rfl rfl) ?_
      rintro xv w' ⟨hx, rfl⟩
      exact ⟨(fun cv hc => hx.trans (Option.some.inj (Option.some.inj hc))), ⟨g5, (fun h => (Sx.put_ne rfl _).trans (p7 h)), H⟩⟩
    · show Sx.StepAt _ _ _ _ _ _ _ 7
      intro L A w up hun hd F ⟨g5, p7, H⟩
      have f7 : L 7 = false := hun
      have f8 : L 8 = false := up 8 7 rfl hun
      rw [f7, f8] at H
      have F := Sx.Fr.to F (kv' := []) trivial
      refine Sx.step_on rfl (Sx.d_alloc_at H rfl 4 [.int .u64 ((Wd.hi 0#128).toNat), .int .u64 ((Wd.lo 0#128).toNat)] zero_43) ?_
      rintro xv w' ⟨g', hx, H⟩
      exact ⟨(fun cv hc => by have h := Option.some.inj hc; cases h), ⟨g', (fun _ => (Sx.put_same F (by decide) _).trans hx), (by show Sx.Own _ _ _ _; rw [show Inv.add L 7 8 = false from f8]; exact H)⟩⟩
    · show Sx.StepAt _ _ _ _ _ _ _ 8
      intro L A w up hun hd F ⟨g5, p7, H⟩
      have t7 : L 7 = true := hd 7 rfl
      have f8 : L 8 = false := hun
      rw [t7, f8] at H
      have F := Sx.Fr.to F (kv' := [(29, .agg #[.int .u64 ((Wd.hi (da + (Wd.mk ((4294967295#64 - (Wd.hi db % 4294967296#64)) + 4294967296#64 * (4294967295#64 - (Wd.hi db / 4294967296#64))) ((4294967295#64 - (Wd.lo db % 4294967296#64)) + 4294967296#64 * (4294967295#64 - (Wd.lo db / 4294967296#64)))))).toNat), .int .u64 ((Wd.lo (da + (Wd.mk ((4294967295#64 - (Wd.hi db % 4294967296#64)) + 4294967296#64 * (4294967295#64 - (Wd.hi db / 4294967296#64))) ((4294967295#64 - (Wd.lo db % 4294967296#64)) + 4294967296#64 * (4294967295#64 - (Wd.lo db / 4294967296#64)))))).toNat)])]) ⟨rfl, trivial⟩
      have F := Sx.Fr.add F (p7 t7)
      refine Sx.step_on rfl (Sx.d_store (i := 4) (xs := [.int .u64 ((Wd.hi (da + (Wd.mk ((4294967295#64 - (Wd.hi db % 4294967296#64)) + 4294967296#64 * (4294967295#64 - (Wd.hi db / 4294967296#64))) ((4294967295#64 - (Wd.lo db % 4294967296#64)) + 4294967296#64 * (4294967295#64 - (Wd.lo db / 4294967296#64)))))).toNat), .int .u64 ((Wd.lo (da + (Wd.mk ((4294967295#64 - (Wd.hi db % 4294967296#64)) + 4294967296#64 * (4294967295#64 - (Wd.hi db / 4294967296#64))) ((4294967295#64 - (Wd.lo db % 4294967296#64)) + 4294967296#64 * (4294967295#64 - (Wd.lo db / 4294967296#64)))))).toNat)]) (us := [.int .u64 ((Wd.hi (da + (Wd.mk ((4294967295#64 - (Wd.hi db % 4294967296#64)) + 4294967296#64 * (4294967295#64 - (Wd.hi db / 4294967296#64))) ((4294967295#64 - (Wd.lo db % 4294967296#64)) + 4294967296#64 * (4294967295#64 - (Wd.lo db / 4294967296#64)))))).toNat), .int .u64 ((Wd.lo (da + (Wd.mk ((4294967295#64 - (Wd.hi db % 4294967296#64)) + 4294967296#64 * (4294967295#64 - (Wd.hi db / 4294967296#64))) ((4294967295#64 - (Wd.lo db % 4294967296#64)) + 4294967296#64 * (4294967295#64 - (Wd.lo db / 4294967296#64)))))).toNat)]) sz_43 F H rfl rfl rfl rfl rfl rfl rfl (Nat.le_of_ble_eq_true rfl) rfl) ?_
      intro xv w' H
      exact ⟨(fun cv hc => by have h := Option.some.inj hc; cases h), ⟨g5, p7, (by show Sx.Own _ _ _ _; rw [show Inv.add L 8 7 = true from t7]; exact H)⟩⟩
    · show Sx.StepAt _ _ _ _ _ _ _ 9
      intro L A w up hun hd F ⟨g5, p7, H⟩
      have t7 : L 7 = true := hd 7 rfl
      have t8 : L 8 = true := hd 8 rfl
      rw [t7, t8] at H
      have F := Sx.Fr.to F (kv' := [(30, .bool (Wd.over da (Wd.mk ((4294967295#64 - (Wd.hi db % 4294967296#64)) + 4294967296#64 * (4294967295#64 - (Wd.hi db / 4294967296#64))) ((4294967295#64 - (Wd.lo db % 4294967296#64)) + 4294967296#64 * (4294967295#64 - (Wd.lo db / 4294967296#64))))))]) ⟨rfl, trivial⟩
      have F := Sx.Fr.add F (p7 t7)
      refine Sx.step_on rfl (Sx.d_move F (Or.inr rfl) rfl) ?_
      rintro xv w' ⟨hx, rfl⟩
      exact ⟨(fun cv hc => hx.trans (Option.some.inj (Option.some.inj hc))), ⟨g5, (fun h => (Sx.put_ne rfl _).trans (p7 h)), (by show Sx.Own _ _ _ _; rw [show Inv.add L 9 7 = true from t7, show Inv.add L 9 8 = true from t8]; exact H)⟩⟩
  · intro L A w hL F ⟨g5, p7, H⟩
    have t7 : L 7 = true := hL 7 rfl
    have t8 : L 8 = true := hL 8 rfl
    rw [t7, t8] at H
    have F := Sx.Fr.add F (p7 t7)
    have F := Sx.Fr.to F (kv' := [(0, .agg #[.int .u64 ((Wd.hi da).toNat), .int .u64 ((Wd.lo da).toNat)]), (1, .agg #[.int .u64 ((Wd.hi db).toNat), .int .u64 ((Wd.lo db).toNat)]), (2, .pointer (some ⟨g1, 0, none⟩)), (3, .pointer (some ⟨g2, 0, none⟩)), (4, .pointer (some ⟨g3, 0, none⟩)), (5, .bool false), (12, .agg #[.int .u64 ((Wd.hi db).toNat), .int .u64 ((Wd.lo db).toNat)]), (13, .agg #[.int .u64 ((Wd.lo db % 4294967296#64).toNat), .int .u64 ((Wd.lo db / 4294967296#64).toNat), .int .u64 ((Wd.hi db % 4294967296#64).toNat), .int .u64 ((Wd.hi db / 4294967296#64).toNat)]), (6, .pointer (some ⟨g4, 0, none⟩)), (7, .int .i64 4), (14, .int .i64 4), (15, .bool false), (18, .int .i64 3), (19, .int .i64 3), (20, .pointer (some ⟨g4, 3, none⟩)), (21, .int .u64 ((Wd.hi db / 4294967296#64).toNat)), (22, .int .u64 ((4294967295#64 - (Wd.hi db / 4294967296#64)).toNat)), (23, .pointer (some ⟨g4, 3, none⟩)), (16, .int .i64 3), (17, .int .i64 4), (8, .pointer (some ⟨g5, 0, none⟩))]) ⟨rfl, rfl, rfl, rfl, rfl, rfl, rfl, rfl, rfl, rfl, rfl, rfl, rfl, rfl, rfl, rfl, rfl, rfl, rfl, rfl, rfl, trivial⟩
    refine hK19 _ _ ?_
    refine Sx.seq (fun K20 hK20 => ?_)
    refine Sx.plain ?_
    refine Sx.sv F (Sx.d_load (i := 4) (xs := [.int .u64 ((Wd.hi (da + (Wd.mk ((4294967295#64 - (Wd.hi db % 4294967296#64)) + 4294967296#64 * (4294967295#64 - (Wd.hi db / 4294967296#64))) ((4294967295#64 - (Wd.lo db % 4294967296#64)) + 4294967296#64 * (4294967295#64 - (Wd.lo db / 4294967296#64)))))).toNat), .int .u64 ((Wd.lo (da + (Wd.mk ((4294967295#64 - (Wd.hi db % 4294967296#64)) + 4294967296#64 * (4294967295#64 - (Wd.hi db / 4294967296#64))) ((4294967295#64 - (Wd.lo db % 4294967296#64)) + 4294967296#64 * (4294967295#64 - (Wd.lo db / 4294967296#64)))))).toNat)]) rw_43 F H rfl rfl rfl rfl rfl) (Sx.wanted_none rfl _) rfl (by decide) (fun A F => ?_)
    refine Sx.sv F (Sx.d_build (qs := #[(0, .int .u64 0), (1, .int .u64 1)]) (v := .agg #[.int .u64 ((Wd.hi 1#128).toNat), .int .u64 ((Wd.lo 1#128).toNat)]) F rfl rfl (by kernel_rfl)) (Sx.wanted_none rfl _) rfl (by decide) (fun A F => ?_)
    refine Sx.sw F (Sx.d_call (vs := [.agg #[.int .u64 ((Wd.hi (da + (Wd.mk ((4294967295#64 - (Wd.hi db % 4294967296#64)) + 4294967296#64 * (4294967295#64 - (Wd.hi db / 4294967296#64))) ((4294967295#64 - (Wd.lo db % 4294967296#64)) + 4294967296#64 * (4294967295#64 - (Wd.lo db / 4294967296#64)))))).toNat), .int .u64 ((Wd.lo (da + (Wd.mk ((4294967295#64 - (Wd.hi db % 4294967296#64)) + 4294967296#64 * (4294967295#64 - (Wd.hi db / 4294967296#64))) ((4294967295#64 - (Wd.lo db % 4294967296#64)) + 4294967296#64 * (4294967295#64 - (Wd.lo db / 4294967296#64)))))).toNat)], .agg #[.int .u64 ((Wd.hi 1#128).toNat), .int .u64 ((Wd.lo 1#128).toNat)]]) (v := .tuple #[.agg #[.int .u64 ((Wd.hi ((da + (Wd.mk ((4294967295#64 - (Wd.hi db % 4294967296#64)) + 4294967296#64 * (4294967295#64 - (Wd.hi db / 4294967296#64))) ((4294967295#64 - (Wd.lo db % 4294967296#64)) + 4294967296#64 * (4294967295#64 - (Wd.lo db / 4294967296#64))))) + 1#128)).toNat), .int .u64 ((Wd.lo ((da + (Wd.mk ((4294967295#64 - (Wd.hi db % 4294967296#64)) + 4294967296#64 * (4294967295#64 - (Wd.hi db / 4294967296#64))) ((4294967295#64 - (Wd.lo db % 4294967296#64)) + 4294967296#64 * (4294967295#64 - (Wd.lo db / 4294967296#64))))) + 1#128)).toNat)], .bool (Wd.over (da + (Wd.mk ((4294967295#64 - (Wd.hi db % 4294967296#64)) + 4294967296#64 * (4294967295#64 - (Wd.hi db / 4294967296#64))) ((4294967295#64 - (Wd.lo db % 4294967296#64)) + 4294967296#64 * (4294967295#64 - (Wd.lo db / 4294967296#64))))) 1#128)]) if_23 F H rfl rfl (radd_c (da + (Wd.mk ((4294967295#64 - (Wd.hi db % 4294967296#64)) + 4294967296#64 * (4294967295#64 - (Wd.hi db / 4294967296#64))) ((4294967295#64 - (Wd.lo db % 4294967296#64)) + 4294967296#64 * (4294967295#64 - (Wd.lo db / 4294967296#64))))) 1#128 _)) (Sx.wanted_none rfl _) rfl (by decide) (fun A w F H => ?_)
    refine Sx.sv F (Sx.d_move F (Or.inl rfl) rfl) (Sx.wanted_none rfl _) rfl (by decide) (fun A F => ?_)
    refine Sx.sv F (Sx.d_extract (v := .agg #[.int .u64 ((Wd.hi ((da + (Wd.mk ((4294967295#64 - (Wd.hi db % 4294967296#64)) + 4294967296#64 * (4294967295#64 - (Wd.hi db / 4294967296#64))) ((4294967295#64 - (Wd.lo db % 4294967296#64)) + 4294967296#64 * (4294967295#64 - (Wd.lo db / 4294967296#64))))) + 1#128)).toNat), .int .u64 ((Wd.lo ((da + (Wd.mk ((4294967295#64 - (Wd.hi db % 4294967296#64)) + 4294967296#64 * (4294967295#64 - (Wd.hi db / 4294967296#64))) ((4294967295#64 - (Wd.lo db % 4294967296#64)) + 4294967296#64 * (4294967295#64 - (Wd.lo db / 4294967296#64))))) + 1#128)).toNat)]) F rfl rfl rfl) (Sx.wanted_none rfl _) rfl (by decide) (fun A F => ?_)
    refine Sx.sv F (Sx.d_extract (v := .bool (Wd.over (da + (Wd.mk ((4294967295#64 - (Wd.hi db % 4294967296#64)) + 4294967296#64 * (4294967295#64 - (Wd.hi db / 4294967296#64))) ((4294967295#64 - (Wd.lo db % 4294967296#64)) + 4294967296#64 * (4294967295#64 - (Wd.lo db / 4294967296#64))))) 1#128)) F rfl rfl rfl) (Sx.wanted_none rfl _) rfl (by decide) (fun A F => ?_)
    refine Sx.sb F (Sx.d_alloc H rfl [.int .u64 ((Wd.hi 0#128).toNat), .int .u64 ((Wd.lo 0#128).toNat)] zero_43) (Sx.wanted_none rfl _) rfl (by decide) (fun g6 A w F H => ?_)
    refine Sx.ss F (Sx.d_store (i := 0) (xs := [.int .u64 ((Wd.hi ((da + (Wd.mk ((4294967295#64 - (Wd.hi db % 4294967296#64)) + 4294967296#64 * (4294967295#64 - (Wd.hi db / 4294967296#64))) ((4294967295#64 - (Wd.lo db % 4294967296#64)) + 4294967296#64 * (4294967295#64 - (Wd.lo db / 4294967296#64))))) + 1#128)).toNat), .int .u64 ((Wd.lo ((da + (Wd.mk ((4294967295#64 - (Wd.hi db % 4294967296#64)) + 4294967296#64 * (4294967295#64 - (Wd.hi db / 4294967296#64))) ((4294967295#64 - (Wd.lo db % 4294967296#64)) + 4294967296#64 * (4294967295#64 - (Wd.lo db / 4294967296#64))))) + 1#128)).toNat)]) (us := [.int .u64 ((Wd.hi ((da + (Wd.mk ((4294967295#64 - (Wd.hi db % 4294967296#64)) + 4294967296#64 * (4294967295#64 - (Wd.hi db / 4294967296#64))) ((4294967295#64 - (Wd.lo db % 4294967296#64)) + 4294967296#64 * (4294967295#64 - (Wd.lo db / 4294967296#64))))) + 1#128)).toNat), .int .u64 ((Wd.lo ((da + (Wd.mk ((4294967295#64 - (Wd.hi db % 4294967296#64)) + 4294967296#64 * (4294967295#64 - (Wd.hi db / 4294967296#64))) ((4294967295#64 - (Wd.lo db % 4294967296#64)) + 4294967296#64 * (4294967295#64 - (Wd.lo db / 4294967296#64))))) + 1#128)).toNat)]) sz_43 F H rfl rfl rfl rfl rfl rfl rfl (Nat.le_of_ble_eq_true rfl) rfl) (Sx.wanted_none rfl _) rfl (fun A w F (H : Sx.Own w0 _ [(true, g6, [.int .u64 ((Wd.hi ((da + (Wd.mk ((4294967295#64 - (Wd.hi db % 4294967296#64)) + 4294967296#64 * (4294967295#64 - (Wd.hi db / 4294967296#64))) ((4294967295#64 - (Wd.lo db % 4294967296#64)) + 4294967296#64 * (4294967295#64 - (Wd.lo db / 4294967296#64))))) + 1#128)).toNat), .int .u64 ((Wd.lo ((da + (Wd.mk ((4294967295#64 - (Wd.hi db % 4294967296#64)) + 4294967296#64 * (4294967295#64 - (Wd.hi db / 4294967296#64))) ((4294967295#64 - (Wd.lo db % 4294967296#64)) + 4294967296#64 * (4294967295#64 - (Wd.lo db / 4294967296#64))))) + 1#128)).toNat)]), (true, g4, [.int .u64 ((4294967295#64 - (Wd.lo db % 4294967296#64)).toNat), .int .u64 ((4294967295#64 - (Wd.lo db / 4294967296#64)).toNat), .int .u64 ((4294967295#64 - (Wd.hi db % 4294967296#64)).toNat), .int .u64 ((4294967295#64 - (Wd.hi db / 4294967296#64)).toNat)]), (true, g3, [.int .u64 ((Wd.hi 0#128).toNat), .int .u64 ((Wd.lo 0#128).toNat)]), (true, g2, [.int .u64 ((Wd.hi db).toNat), .int .u64 ((Wd.lo db).toNat)]), (true, g1, [.int .u64 ((Wd.hi da).toNat), .int .u64 ((Wd.lo da).toNat)]), (true, g5, [.int .u64 ((Wd.hi (da + (Wd.mk ((4294967295#64 - (Wd.hi db % 4294967296#64)) + 4294967296#64 * (4294967295#64 - (Wd.hi db / 4294967296#64))) ((4294967295#64 - (Wd.lo db % 4294967296#64)) + 4294967296#64 * (4294967295#64 - (Wd.lo db / 4294967296#64)))))).toNat), .int .u64 ((Wd.lo (da + (Wd.mk ((4294967295#64 - (Wd.hi db % 4294967296#64)) + 4294967296#64 * (4294967295#64 - (Wd.hi db / 4294967296#64))) ((4294967295#64 - (Wd.lo db % 4294967296#64)) + 4294967296#64 * (4294967295#64 - (Wd.lo db / 4294967296#64)))))).toNat)])] []) => ?_)
    refine Sx.sv F (Sx.d_move F (Or.inr rfl) rfl) (Sx.wanted_none rfl _) rfl (by decide) (fun A F => ?_)
    refine Sx.nil ?_
    refine hK20 _ _ ?_
    rcases Nat.lt_trichotomy (Wd.hi da).toNat (Wd.hi db).toNat with hl | hl | hl
    · skip
      refine Sx.seq (fun K21 hK21 => ?_)
      have F := Sx.Fr.to F (kv' := [(0, .agg #[.int .u64 ((Wd.hi da).toNat), .int .u64 ((Wd.lo da).toNat)]), (1, .agg #[.int .u64 ((Wd.hi db).toNat), .int .u64 ((Wd.lo db).toNat)]), (2, .pointer (some ⟨g1, 0, none⟩)), (3, .pointer (some ⟨g2, 0, none⟩)), (4, .pointer (some ⟨g3, 0, none⟩)), (12, .agg #[.int .u64 ((Wd.hi db).toNat), .int .u64 ((Wd.lo db).toNat)]), (13, .agg #[.int .u64 ((Wd.lo db % 4294967296#64).toNat), .int .u64 ((Wd.lo db / 4294967296#64).toNat), .int .u64 ((Wd.hi db % 4294967296#64).toNat), .int .u64 ((Wd.hi db / 4294967296#64).toNat)]), (6, .pointer (some ⟨g4, 0, none⟩)), (7, .int .i64 4), (14, .int .i64 4), (15, .bool false), (18, .int .i64 3), (19, .int .i64 3), (20, .pointer (some ⟨g4, 3, none⟩)), (21, .int .u64 ((Wd.hi db / 4294967296#64).toNat)), (22, .int .u64 ((4294967295#64 - (Wd.hi db / 4294967296#64)).toNat)), (23, .pointer (some ⟨g4, 3, none⟩)), (16, .int .i64 3), (17, .int .i64 4), (8, .pointer (some ⟨g5, 0, none⟩)), (32, .agg #[.int .u64 ((Wd.hi (da + (Wd.mk ((4294967295#64 - (Wd.hi db % 4294967296#64)) + 4294967296#64 * (4294967295#64 - (Wd.hi db / 4294967296#64))) ((4294967295#64 - (Wd.lo db % 4294967296#64)) + 4294967296#64 * (4294967295#64 - (Wd.lo db / 4294967296#64)))))).toNat), .int .u64 ((Wd.lo (da + (Wd.mk ((4294967295#64 - (Wd.hi db % 4294967296#64)) + 4294967296#64 * (4294967295#64 - (Wd.hi db / 4294967296#64))) ((4294967295#64 - (Wd.lo db % 4294967296#64)) + 4294967296#64 * (4294967295#64 - (Wd.lo db / 4294967296#64)))))).toNat)]), (33, .agg #[.int .u64 ((Wd.hi 1#128).toNat), .int .u64 ((Wd.lo 1#128).toNat)]), (34, .tuple #[.agg #[.int .u64 ((Wd.hi ((da + (Wd.mk ((4294967295#64 - (Wd.hi db % 4294967296#64)) + 4294967296#64 * (4294967295#64 - (Wd.hi db / 4294967296#64))) ((4294967295#64 - (Wd.lo db % 4294967296#64)) + 4294967296#64 * (4294967295#64 - (Wd.lo db / 4294967296#64))))) + 1#128)).toNat), .int .u64 ((Wd.lo ((da + (Wd.mk ((4294967295#64 - (Wd.hi db % 4294967296#64)) + 4294967296#64 * (4294967295#64 - (Wd.hi db / 4294967296#64))) ((4294967295#64 - (Wd.lo db % 4294967296#64)) + 4294967296#64 * (4294967295#64 - (Wd.lo db / 4294967296#64))))) + 1#128)).toNat)], .bool (Wd.over (da + (Wd.mk ((4294967295#64 - (Wd.hi db % 4294967296#64)) + 4294967296#64 * (4294967295#64 - (Wd.hi db / 4294967296#64))) ((4294967295#64 - (Wd.lo db % 4294967296#64)) + 4294967296#64 * (4294967295#64 - (Wd.lo db / 4294967296#64))))) 1#128)]), (31, .tuple #[.agg #[.int .u64 ((Wd.hi ((da + (Wd.mk ((4294967295#64 - (Wd.hi db % 4294967296#64)) + 4294967296#64 * (4294967295#64 - (Wd.hi db / 4294967296#64))) ((4294967295#64 - (Wd.lo db % 4294967296#64)) + 4294967296#64 * (4294967295#64 - (Wd.lo db / 4294967296#64))))) + 1#128)).toNat), .int .u64 ((Wd.lo ((da + (Wd.mk ((4294967295#64 - (Wd.hi db % 4294967296#64)) + 4294967296#64 * (4294967295#64 - (Wd.hi db / 4294967296#64))) ((4294967295#64 - (Wd.lo db % 4294967296#64)) + 4294967296#64 * (4294967295#64 - (Wd.lo db / 4294967296#64))))) + 1#128)).toNat)], .bool (Wd.over (da + (Wd.mk ((4294967295#64 - (Wd.hi db % 4294967296#64)) + 4294967296#64 * (4294967295#64 - (Wd.hi db / 4294967296#64))) ((4294967295#64 - (Wd.lo db % 4294967296#64)) + 4294967296#64 * (4294967295#64 - (Wd.lo db / 4294967296#64))))) 1#128)]), (35, .agg #[.int .u64 ((Wd.hi ((da + (Wd.mk ((4294967295#64 - (Wd.hi db % 4294967296#64)) + 4294967296#64 * (4294967295#64 - (Wd.hi db / 4294967296#64))) ((4294967295#64 - (Wd.lo db % 4294967296#64)) + 4294967296#64 * (4294967295#64 - (Wd.lo db / 4294967296#64))))) + 1#128)).toNat), .int .u64 ((Wd.lo ((da + (Wd.mk ((4294967295#64 - (Wd.hi db % 4294967296#64)) + 4294967296#64 * (4294967295#64 - (Wd.hi db / 4294967296#64))) ((4294967295#64 - (Wd.lo db % 4294967296#64)) + 4294967296#64 * (4294967295#64 - (Wd.lo db / 4294967296#64))))) + 1#128)).toNat)]), (36, .bool (Wd.over (da + (Wd.mk ((4294967295#64 - (Wd.hi db % 4294967296#64)) + 4294967296#64 * (4294967295#64 - (Wd.hi db / 4294967296#64))) ((4294967295#64 - (Wd.lo db % 4294967296#64)) + 4294967296#64 * (4294967295#64 - (Wd.lo db / 4294967296#64))))) 1#128)), (10, .pointer (some ⟨g6, 0, none⟩)), (11, .bool (Wd.over (da + (Wd.mk ((4294967295#64 - (Wd.hi db % 4294967296#64)) + 4294967296#64 * (4294967295#64 - (Wd.hi db / 4294967296#64))) ((4294967295#64 - (Wd.lo db % 4294967296#64)) + 4294967296#64 * (4294967295#64 - (Wd.lo db / 4294967296#64))))) 1#128))]) ⟨rfl, rfl, rfl, rfl, rfl, rfl, rfl, rfl, rfl, rfl, rfl, rfl, rfl, rfl, rfl, rfl, rfl, rfl, rfl, rfl, rfl, rfl, rfl, rfl, rfl, rfl, rfl, rfl, trivial⟩
      refine Sx.drawn F (by kernel_rfl) (by kernel_rfl) (by kernel_rfl) [some (.agg #[.int .u64 ((Wd.hi ((da + (Wd.mk ((4294967295#64 - (Wd.hi db % 4294967296#64)) + 4294967296#64 * (4294967295#64 - (Wd.hi db / 4294967296#64))) ((4294967295#64 - (Wd.lo db % 4294967296#64)) + 4294967296#64 * (4294967295#64 - (Wd.lo db / 4294967296#64))))) + 1#128)).toNat), .int .u64 ((Wd.lo ((da + (Wd.mk ((4294967295#64 - (Wd.hi db % 4294967296#64)) + 4294967296#64 * (4294967295#64 - (Wd.hi db / 4294967296#64))) ((4294967295#64 - (Wd.lo db % 4294967296#64)) + 4294967296#64 * (4294967295#64 - (Wd.lo db / 4294967296#64))))) + 1#128)).toNat)]), some (.pointer (some ⟨g1, 0, none⟩)), some (.int .u64 ((Wd.hi da).toNat)), some (.pointer (some ⟨g2, 0, none⟩)), some (.int .u64 ((Wd.hi db).toNat)), some (.bool true), some (.bool true), some (undef), some (undef), some (undef), some (undef), some (undef), some (undef), some (undef), some (undef), some (undef), some (undef), some (undef), some (undef), some (.bool true), none, some (.bool true)] (fun L A w => Sx.Own w0 w [(true, g6, [.int .u64 ((Wd.hi ((da + (Wd.mk ((4294967295#64 - (Wd.hi db % 4294967296#64)) + 4294967296#64 * (4294967295#64 - (Wd.hi db / 4294967296#64))) ((4294967295#64 - (Wd.lo db % 4294967296#64)) + 4294967296#64 * (4294967295#64 - (Wd.lo db / 4294967296#64))))) + 1#128)).toNat), .int .u64 ((Wd.lo ((da + (Wd.mk ((4294967295#64 - (Wd.hi db % 4294967296#64)) + 4294967296#64 * (4294967295#64 - (Wd.hi db / 4294967296#64))) ((4294967295#64 - (Wd.lo db % 4294967296#64)) + 4294967296#64 * (4294967295#64 - (Wd.lo db / 4294967296#64))))) + 1#128)).toNat)]), (true, g4, [.int .u64 ((4294967295#64 - (Wd.lo db % 4294967296#64)).toNat), .int .u64 ((4294967295#64 - (Wd.lo db / 4294967296#64)).toNat), .int .u64 ((4294967295#64 - (Wd.hi db % 4294967296#64)).toNat), .int .u64 ((4294967295#64 - (Wd.hi db / 4294967296#64)).toNat)]), (true, g3, (cond (L 20) [.int .u64 ((Wd.hi ((da + (Wd.mk ((4294967295#64 - (Wd.hi db % 4294967296#64)) + 4294967296#64 * (4294967295#64 - (Wd.hi db / 4294967296#64))) ((4294967295#64 - (Wd.lo db % 4294967296#64)) + 4294967296#64 * (4294967295#64 - (Wd.lo db / 4294967296#64))))) + 1#128)).toNat), .int .u64 ((Wd.lo ((da + (Wd.mk ((4294967295#64 - (Wd.hi db % 4294967296#64)) + 4294967296#64 * (4294967295#64 - (Wd.hi db / 4294967296#64))) ((4294967295#64 - (Wd.lo db % 4294967296#64)) + 4294967296#64 * (4294967295#64 - (Wd.lo db / 4294967296#64))))) + 1#128)).toNat)] [.int .u64 ((Wd.hi 0#128).toNat), .int .u64 ((Wd.lo 0#128).toNat)])), (true, g2, [.int .u64 ((Wd.hi db).toNat), .int .u64 ((Wd.lo db).toNat)]), (true, g1, [.int .u64 ((Wd.hi da).toNat), .int .u64 ((Wd.lo da).toNat)]), (true, g5, [.int .u64 ((Wd.hi (da + (Wd.mk ((4294967295#64 - (Wd.hi db % 4294967296#64)) + 4294967296#64 * (4294967295#64 - (Wd.hi db / 4294967296#64))) ((4294967295#64 - (Wd.lo db % 4294967296#64)) + 4294967296#64 * (4294967295#64 - (Wd.lo db / 4294967296#64)))))).toNat), .int .u64 ((Wd.lo (da + (Wd.mk ((4294967295#64 - (Wd.hi db % 4294967296#64)) + 4294967296#64 * (4294967295#64 - (Wd.hi db / 4294967296#64))) ((4294967295#64 - (Wd.lo db % 4294967296#64)) + 4294967296#64 * (4294967295#64 - (Wd.lo db / 4294967296#64)))))).toNat)])] []) H.drew ?_ ?_
      · refine ⟨?_, ?_, ?_, ?_, ?_, ?_, ?_, ?_, ?_, ?_, ?_, ?_, ?_, ?_, ?_, ?_, ?_, ?_, ?_, ?_, ?_, ?_, trivial⟩
        · show Sx.StepAt _ _ _ _ _ _ _ 0
          intro L A w up hun hd F H
          have f20 : L 20 = false := up 20 0 rfl hun
          rw [f20] at H
          have F := Sx.Fr.to F (kv' := [(10, .pointer (some ⟨g6, 0, none⟩))]) ⟨rfl, trivial⟩
          refine Sx.step_on rfl (Sx.d_load (i := 0) (xs := [.int .u64 ((Wd.hi ((da + (Wd.mk ((4294967295#64 - (Wd.hi db % 4294967296#64)) + 4294967296#64 * (4294967295#64 - (Wd.hi db / 4294967296#64))) ((4294967295#64 - (Wd.lo db % 4294967296#64)) + 4294967296#64 * (4294967295#64 - (Wd.lo db / 4294967296#64))))) + 1#128)).toNat), .int .u64 ((Wd.lo ((da + (Wd.mk ((4294967295#64 - (Wd.hi db % 4294967296#64)) + 4294967296#64 * (4294967295#64 - (Wd.hi db / 4294967296#64))) ((4294967295#64 - (Wd.lo db % 4294967296#64)) + 4294967296#64 * (4294967295#64 - (Wd.lo db / 4294967296#64))))) + 1#128)).toNat)]) rw_43 F H rfl rfl rfl rfl rfl) ?_
          rintro xv w' ⟨hx, rfl⟩
          exact ⟨(fun cv hc => hx.trans (Option.some.inj (Option.some.inj hc))), (by show Sx.Own _ _ _ _; rw [show Inv.add L 0 20 = false from f20]; exact H)⟩
        · show Sx.StepAt _ _ _ _ _ _ _ 1
          intro L A w up hun hd F H
          have f2 : L 2 = false := up 2 1 rfl hun
          have f5 : L 5 = false := up 5 2 rfl f2
          have f6 : L 6 = false := up 6 5 rfl f5
          have f12 : L 12 = false := up 12 6 rfl f6
          have f20 : L 20 = false := up 20 12 rfl f12
          rw [f20] at H
          have F := Sx.Fr.to F (kv' := [(2, .pointer (some ⟨g1, 0, none⟩))]) ⟨rfl, trivial⟩
          refine Sx.step_on rfl (Sx.d_faddr (v := .pointer (some ⟨g1, 0, none⟩)) F rfl rfl (fa_43_0 _ 0 _)) ?_
          rintro xv w' ⟨hx, rfl⟩
          exact ⟨(fun cv hc => hx.trans (Option.some.inj (Option.some.inj hc))), (by show Sx.Own _ _ _ _; rw [show Inv.add L 1 20 = false from f20]; exact H)⟩
        · show Sx.StepAt _ _ _ _ _ _ _ 2
          intro L A w up hun hd F H
          have f5 : L 5 = false := up 5 2 rfl hun
          have f6 : L 6 = false := up 6 5 rfl f5
          have f12 : L 12 = false := up 12 6 rfl f6
          have f20 : L 20 = false := up 20 12 rfl f12
          rw [f20] at H
          have F := Sx.Fr.to F (kv' := [(38, .pointer (some ⟨g1, 0, none⟩))]) ⟨rfl, trivial⟩
          refine Sx.step_on rfl (Sx.d_load1 (i := 4) (v := .int .u64 ((Wd.hi da).toNat)) one_22 F H rfl rfl rfl rfl) ?_
          rintro xv w' ⟨hx, rfl⟩
          exact ⟨(fun cv hc => hx.trans (Option.some.inj (Option.some.inj hc))), (by show Sx.Own _ _ _ _; rw [show Inv.add L 2 20 = false from f20]; exact H)⟩
        · show Sx.StepAt _ _ _ _ _ _ _ 3
          intro L A w up hun hd F H
          have f4 : L 4 = false := up 4 3 rfl hun
          have f5 : L 5 = false := up 5 4 rfl f4
          have f6 : L 6 = false := up 6 5 rfl f5
          have f12 : L 12 = false := up 12 6 rfl f6
          have f20 : L 20 = false := up 20 12 rfl f12
          rw [f20] at H
          have F := Sx.Fr.to F (kv' := [(3, .pointer (some ⟨g2, 0, none⟩))]) ⟨rfl, trivial⟩
          refine Sx.step_on rfl (Sx.d_faddr (v := .pointer (some ⟨g2, 0, none⟩)) F rfl rfl (fa_43_0 _ 0 _)) ?_
          rintro xv w' ⟨hx, rfl⟩
          exact ⟨(fun cv hc => hx.trans (Option.some.inj (Option.some.inj hc))), (by show Sx.Own _ _ _ _; rw [show Inv.add L 3 20 = false from f20]; exact H)⟩
        · show Sx.StepAt _ _ _ _ _ _ _ 4
          intro L A w up hun hd F H
          have f5 : L 5 = false := up 5 4 rfl hun
          have f6 : L 6 = false := up 6 5 rfl f5
          have f12 : L 12 = false := up 12 6 rfl f6
          have f20 : L 20 = false := up 20 12 rfl f12
          rw [f20] at H
          have F := Sx.Fr.to F (kv' := [(40, .pointer (some ⟨g2, 0, none⟩))]) ⟨rfl, trivial⟩
          refine Sx.step_on rfl (Sx.d_load1 (i := 3) (v := .int .u64 ((Wd.hi db).toNat)) one_22 F H rfl rfl rfl rfl) ?_
          rintro xv w' ⟨hx, rfl⟩
          exact ⟨(fun cv hc => hx.trans (Option.some.inj (Option.some.inj hc))), (by show Sx.Own _ _ _ _; rw [show Inv.add L 4 20 = false from f20]; exact H)⟩
        · show Sx.StepAt _ _ _ _ _ _ _ 5
          intro L A w up hun hd F H
          have f6 : L 6 = false := up 6 5 rfl hun
          have f12 : L 12 = false := up 12 6 rfl f6
          have f20 : L 20 = false := up 20 12 rfl f12
          rw [f20] at H
          have F := Sx.Fr.to F (kv' := [(39, .int .u64 ((Wd.hi da).toNat)), (41, .int .u64 ((Wd.hi db).toNat))]) ⟨rfl, rfl, trivial⟩
          refine Sx.step_on rfl (Sx.d_bin (v := .bool true) F rfl rfl rfl (Sx.i_lt (decide_eq_true (by omega)))) ?_
          rintro xv w' ⟨hx, rfl⟩
          exact ⟨(fun cv hc => hx.trans (Option.some.inj (Option.some.inj hc))), (by show Sx.Own _ _ _ _; rw [show Inv.add L 5 20 = false from f20]; exact H)⟩
        · show Sx.StepAt _ _ _ _ _ _ _ 6
          intro L A w up hun hd F H
          have f12 : L 12 = false := up 12 6 rfl hun
          have f20 : L 20 = false := up 20 12 rfl f12
          rw [f20] at H
          have F := Sx.Fr.to F (kv' := [(42, .bool true)]) ⟨rfl, trivial⟩
          refine Sx.step_on rfl (Sx.d_move F (Or.inl rfl) rfl) ?_
          rintro xv w' ⟨hx, rfl⟩
          exact ⟨(fun cv hc => hx.trans (Option.some.inj (Option.some.inj hc))), (by show Sx.Own _ _ _ _; rw [show Inv.add L 6 20 = false from f20]; exact H)⟩
        · show Sx.StepAt _ _ _ _ _ _ _ 7
          intro L A w up hun hd F H
          have f8 : L 8 = false := up 8 7 rfl hun
          have f11 : L 11 = false := up 11 8 rfl f8
          have f12 : L 12 = false := up 12 11 rfl f11
          have f20 : L 20 = false := up 20 12 rfl f12
          rw [f20] at H
          have F := Sx.Fr.to F (kv' := [(2, .pointer (some ⟨g1, 0, none⟩)), (43, .bool true)]) ⟨rfl, rfl, trivial⟩
          exact Sx.step_off rfl (Sx.guard_known (d := 43) (b := true) F rfl rfl) rfl ⟨(fun cv hc => Option.some.inj (Option.some.inj hc)), (by show Sx.Own _ _ _ _; rw [show Inv.add L 7 20 = false from f20]; exact H)⟩
        · show Sx.StepAt _ _ _ _ _ _ _ 8
          intro L A w up hun hd F H
          have f11 : L 11 = false := up 11 8 rfl hun
          have f12 : L 12 = false := up 12 11 rfl f11
          have f20 : L 20 = false := up 20 12 rfl f12
          rw [f20] at H
          have F := Sx.Fr.to F (kv' := [(44, undef), (43, .bool true)]) ⟨rfl, rfl, trivial⟩
          exact Sx.step_off rfl (Sx.guard_known (d := 43) (b := true) F rfl rfl) rfl ⟨(fun cv hc => Option.some.inj (Option.some.inj hc)), (by show Sx.Own _ _ _ _; rw [show Inv.add L 8 20 = false from f20]; exact H)⟩
        · show Sx.StepAt _ _ _ _ _ _ _ 9
          intro L A w up hun hd F H
          have f10 : L 10 = false := up 10 9 rfl hun
          have f11 : L 11 = false := up 11 10 rfl f10
          have f12 : L 12 = false := up 12 11 rfl f11
          have f20 : L 20 = false := up 20 12 rfl f12
          rw [f20] at H
          have F := Sx.Fr.to F (kv' := [(3, .pointer (some ⟨g2, 0, none⟩)), (43, .bool true)]) ⟨rfl, rfl, trivial⟩
          exact Sx.step_off rfl (Sx.guard_known (d := 43) (b := true) F rfl rfl) rfl ⟨(fun cv hc => Option.some.inj (Option.some.inj hc)), (by show Sx.Own _ _ _ _; rw [show Inv.add L 9 20 = false from f20]; exact H)⟩
        · show Sx.StepAt _ _ _ _ _ _ _ 10
          intro L A w up hun hd F H
          have f11 : L 11 = false := up 11 10 rfl hun
          have f12 : L 12 = false := up 12 11 rfl f11
          have f20 : L 20 = false := up 20 12 rfl f12
          rw [f20] at H
          have F := Sx.Fr.to F (kv' := [(46, undef), (43, .bool true)]) ⟨rfl, rfl, trivial⟩
          exact Sx.step_off rfl (Sx.guard_known (d := 43) (b := true) F rfl rfl) rfl ⟨(fun cv hc => Option.some.inj (Option.some.inj hc)), (by show Sx.Own _ _ _ _; rw [show Inv.add L 10 20 = false from f20]; exact H)⟩
        · show Sx.StepAt _ _ _ _ _ _ _ 11
          intro L A w up hun hd F H
          have f12 : L 12 = false := up 12 11 rfl hun
          have f20 : L 20 = false := up 20 12 rfl f12
          rw [f20] at H
          have F := Sx.Fr.to F (kv' := [(45, undef), (47, undef), (43, .bool true)]) ⟨rfl, rfl, rfl, trivial⟩
          exact Sx.step_off rfl (Sx.guard_known (d := 43) (b := true) F rfl rfl) rfl ⟨(fun cv hc => Option.some.inj (Option.some.inj hc)), (by show Sx.Own _ _ _ _; rw [show Inv.add L 11 20 = false from f20]; exact H)⟩
        · show Sx.StepAt _ _ _ _ _ _ _ 12
          intro L A w up hun hd F H
          have f20 : L 20 = false := up 20 12 rfl hun
          rw [f20] at H
          have F := Sx.Fr.to F (kv' := [(48, undef), (43, .bool true)]) ⟨rfl, rfl, trivial⟩
          exact Sx.step_off rfl (Sx.guard_known (d := 43) (b := true) F rfl rfl) rfl ⟨(fun cv hc => Option.some.inj (Option.some.inj hc)), (by show Sx.Own _ _ _ _; rw [show Inv.add L 12 20 = false from f20]; exact H)⟩
        · show Sx.StepAt _ _ _ _ _ _ _ 13
          intro L A w up hun hd F H
          have F := Sx.Fr.to F (kv' := [(2, .pointer (some ⟨g1, 0, none⟩)), (49, undef)]) ⟨rfl, rfl, trivial⟩
          exact Sx.step_offU rfl (Sx.guard_undef (d := 49) F rfl rfl) ⟨(fun cv hc => Option.some.inj (Option.some.inj hc)), H⟩
        · show Sx.StepAt _ _ _ _ _ _ _ 14
          intro L A w up hun hd F H
          have F := Sx.Fr.to F (kv' := [(50, undef), (49, undef)]) ⟨rfl, rfl, trivial⟩
          exact Sx.step_offU rfl (Sx.guard_undef (d := 49) F rfl rfl) ⟨(fun cv hc => Option.some.inj (Option.some.inj hc)), H⟩
        · show Sx.StepAt _ _ _ _ _ _ _ 15
          intro L A w up hun hd F H
          have F := Sx.Fr.to F (kv' := [(3, .pointer (some ⟨g2, 0, none⟩)), (49, undef)]) ⟨rfl, rfl, trivial⟩
          exact Sx.step_offU rfl (Sx.guard_undef (d := 49) F rfl rfl) ⟨(fun cv hc => Option.some.inj (Option.some.inj hc)), H⟩
        · show Sx.StepAt _ _ _ _ _ _ _ 16
          intro L A w up hun hd F H
          have F := Sx.Fr.to F (kv' := [(52, undef), (49, undef)]) ⟨rfl, rfl, trivial⟩
          exact Sx.step_offU rfl (Sx.guard_undef (d := 49) F rfl rfl) ⟨(fun cv hc => Option.some.inj (Option.some.inj hc)), H⟩
        · show Sx.StepAt _ _ _ _ _ _ _ 17
          intro L A w up hun hd F H
          have F := Sx.Fr.to F (kv' := [(51, undef), (53, undef), (49, undef)]) ⟨rfl, rfl, rfl, trivial⟩
          exact Sx.step_offU rfl (Sx.guard_undef (d := 49) F rfl rfl) ⟨(fun cv hc => Option.some.inj (Option.some.inj hc)), H⟩
        · show Sx.StepAt _ _ _ _ _ _ _ 18
          intro L A w up hun hd F H
          have F := Sx.Fr.to F (kv' := [(49, undef), (54, undef), (43, .bool true)]) ⟨rfl, rfl, rfl, trivial⟩
          exact Sx.step_off rfl (Sx.guard_known (d := 43) (b := true) F rfl rfl) rfl ⟨(fun cv hc => Option.some.inj (Option.some.inj hc)), H⟩
        · show Sx.StepAt _ _ _ _ _ _ _ 19
          intro L A w up hun hd F H
          have F := Sx.Fr.to F (kv' := [(43, .bool true), (55, undef)]) ⟨rfl, rfl, trivial⟩
          refine Sx.step_on rfl (Sx.d_pickT (v := .bool true) F rfl rfl rfl) ?_
          rintro xv w' ⟨hx, rfl⟩
          exact ⟨(fun cv hc => hx.trans (Option.some.inj (Option.some.inj hc))), H⟩
        · show Sx.StepAt _ _ _ _ _ _ _ 20
          intro L A w up hun hd F H
          have f20 : L 20 = false := hun
          rw [f20] at H
          have F := Sx.Fr.to F (kv' := [(4, .pointer (some ⟨g3, 0, none⟩)), (37, .agg #[.int .u64 ((Wd.hi ((da + (Wd.mk ((4294967295#64 - (Wd.hi db % 4294967296#64)) + 4294967296#64 * (4294967295#64 - (Wd.hi db / 4294967296#64))) ((4294967295#64 - (Wd.lo db % 4294967296#64)) + 4294967296#64 * (4294967295#64 - (Wd.lo db / 4294967296#64))))) + 1#128)).toNat), .int .u64 ((Wd.lo ((da + (Wd.mk ((4294967295#64 - (Wd.hi db % 4294967296#64)) + 4294967296#64 * (4294967295#64 - (Wd.hi db / 4294967296#64))) ((4294967295#64 - (Wd.lo db % 4294967296#64)) + 4294967296#64 * (4294967295#64 - (Wd.lo db / 4294967296#64))))) + 1#128)).toNat)])]) ⟨rfl, rfl, trivial⟩
          refine Sx.step_on rfl (Sx.d_store (i := 2) (xs := [.int .u64 ((Wd.hi ((da + (Wd.mk ((4294967295#64 - (Wd.hi db % 4294967296#64)) + 4294967296#64 * (4294967295#64 - (Wd.hi db / 4294967296#64))) ((4294967295#64 - (Wd.lo db % 4294967296#64)) + 4294967296#64 * (4294967295#64 - (Wd.lo db / 4294967296#64))))) + 1#128)).toNat), .int .u64 ((Wd.lo ((da + (Wd.mk ((4294967295#64 - (Wd.hi db % 4294967296#64)) + 4294967296#64 * (4294967295#64 - (Wd.hi db / 4294967296#64))) ((4294967295#64 - (Wd.lo db % 4294967296#64)) + 4294967296#64 * (4294967295#64 - (Wd.lo db / 4294967296#64))))) + 1#128)).toNat)]) (us := [.int .u64 ((Wd.hi ((da + (Wd.mk ((4294967295#64 - (Wd.hi db % 4294967296#64)) + 4294967296#64 * (4294967295#64 - (Wd.hi db / 4294967296#64))) ((4294967295#64 - (Wd.lo db % 4294967296#64)) + 4294967296#64 * (4294967295#64 - (Wd.lo db / 4294967296#64))))) + 1#128)).toNat), .int .u64 ((Wd.lo ((da + (Wd.mk ((4294967295#64 - (Wd.hi db % 4294967296#64)) + 4294967296#64 * (4294967295#64 - (Wd.hi db / 4294967296#64))) ((4294967295#64 - (Wd.lo db % 4294967296#64)) + 4294967296#64 * (4294967295#64 - (Wd.lo db / 4294967296#64))))) + 1#128)).toNat)]) sz_43 F H rfl rfl rfl rfl rfl rfl rfl (Nat.le_of_ble_eq_true rfl) rfl) ?_
          intro xv w' H
          exact ⟨(fun cv hc => by have h := Option.some.inj hc; cases h), H⟩
        · show Sx.StepAt _ _ _ _ _ _ _ 21
          intro L A w up hun hd F H
          have t20 : L 20 = true := hd 20 rfl
          rw [t20] at H
          have F := Sx.Fr.to F (kv' := [(56, .bool true)]) ⟨rfl, trivial⟩
          refine Sx.step_on rfl (Sx.d_move F (Or.inr rfl) rfl) ?_
          rintro xv w' ⟨hx, rfl⟩
          exact ⟨(fun cv hc => hx.trans (Option.some.inj (Option.some.inj hc))), (by show Sx.Own _ _ _ _; rw [show Inv.add L 21 20 = true from t20]; exact H)⟩
      · intro L A w hL F H
        have t20 : L 20 = true := hL 20 rfl
        rw [t20] at H
        have F := Sx.Fr.to F (kv' := [(0, .agg #[.int .u64 ((Wd.hi da).toNat), .int .u64 ((Wd.lo da).toNat)]), (1, .agg #[.int .u64 ((Wd.hi db).toNat), .int .u64 ((Wd.lo db).toNat)]), (2, .pointer (some ⟨g1, 0, none⟩)), (3, .pointer (some ⟨g2, 0, none⟩)), (4, .pointer (some ⟨g3, 0, none⟩)), (12, .agg #[.int .u64 ((Wd.hi db).toNat), .int .u64 ((Wd.lo db).toNat)]), (13, .agg #[.int .u64 ((Wd.lo db % 4294967296#64).toNat), .int .u64 ((Wd.lo db / 4294967296#64).toNat), .int .u64 ((Wd.hi db % 4294967296#64).toNat), .int .u64 ((Wd.hi db / 4294967296#64).toNat)]), (6, .pointer (some ⟨g4, 0, none⟩)), (7, .int .i64 4), (14, .int .i64 4), (15, .bool false), (18, .int .i64 3), (19, .int .i64 3), (20, .pointer (some ⟨g4, 3, none⟩)), (21, .int .u64 ((Wd.hi db / 4294967296#64).toNat)), (22, .int .u64 ((4294967295#64 - (Wd.hi db / 4294967296#64)).toNat)), (23, .pointer (some ⟨g4, 3, none⟩)), (16, .int .i64 3), (17, .int .i64 4), (8, .pointer (some ⟨g5, 0, none⟩)), (32, .agg #[.int .u64 ((Wd.hi (da + (Wd.mk ((4294967295#64 - (Wd.hi db % 4294967296#64)) + 4294967296#64 * (4294967295#64 - (Wd.hi db / 4294967296#64))) ((4294967295#64 - (Wd.lo db % 4294967296#64)) + 4294967296#64 * (4294967295#64 - (Wd.lo db / 4294967296#64)))))).toNat), .int .u64 ((Wd.lo (da + (Wd.mk ((4294967295#64 - (Wd.hi db % 4294967296#64)) + 4294967296#64 * (4294967295#64 - (Wd.hi db / 4294967296#64))) ((4294967295#64 - (Wd.lo db % 4294967296#64)) + 4294967296#64 * (4294967295#64 - (Wd.lo db / 4294967296#64)))))).toNat)]), (33, .agg #[.int .u64 ((Wd.hi 1#128).toNat), .int .u64 ((Wd.lo 1#128).toNat)]), (34, .tuple #[.agg #[.int .u64 ((Wd.hi ((da + (Wd.mk ((4294967295#64 - (Wd.hi db % 4294967296#64)) + 4294967296#64 * (4294967295#64 - (Wd.hi db / 4294967296#64))) ((4294967295#64 - (Wd.lo db % 4294967296#64)) + 4294967296#64 * (4294967295#64 - (Wd.lo db / 4294967296#64))))) + 1#128)).toNat), .int .u64 ((Wd.lo ((da + (Wd.mk ((4294967295#64 - (Wd.hi db % 4294967296#64)) + 4294967296#64 * (4294967295#64 - (Wd.hi db / 4294967296#64))) ((4294967295#64 - (Wd.lo db % 4294967296#64)) + 4294967296#64 * (4294967295#64 - (Wd.lo db / 4294967296#64))))) + 1#128)).toNat)], .bool (Wd.over (da + (Wd.mk ((4294967295#64 - (Wd.hi db % 4294967296#64)) + 4294967296#64 * (4294967295#64 - (Wd.hi db / 4294967296#64))) ((4294967295#64 - (Wd.lo db % 4294967296#64)) + 4294967296#64 * (4294967295#64 - (Wd.lo db / 4294967296#64))))) 1#128)]), (31, .tuple #[.agg #[.int .u64 ((Wd.hi ((da + (Wd.mk ((4294967295#64 - (Wd.hi db % 4294967296#64)) + 4294967296#64 * (4294967295#64 - (Wd.hi db / 4294967296#64))) ((4294967295#64 - (Wd.lo db % 4294967296#64)) + 4294967296#64 * (4294967295#64 - (Wd.lo db / 4294967296#64))))) + 1#128)).toNat), .int .u64 ((Wd.lo ((da + (Wd.mk ((4294967295#64 - (Wd.hi db % 4294967296#64)) + 4294967296#64 * (4294967295#64 - (Wd.hi db / 4294967296#64))) ((4294967295#64 - (Wd.lo db % 4294967296#64)) + 4294967296#64 * (4294967295#64 - (Wd.lo db / 4294967296#64))))) + 1#128)).toNat)], .bool (Wd.over (da + (Wd.mk ((4294967295#64 - (Wd.hi db % 4294967296#64)) + 4294967296#64 * (4294967295#64 - (Wd.hi db / 4294967296#64))) ((4294967295#64 - (Wd.lo db % 4294967296#64)) + 4294967296#64 * (4294967295#64 - (Wd.lo db / 4294967296#64))))) 1#128)]), (35, .agg #[.int .u64 ((Wd.hi ((da + (Wd.mk ((4294967295#64 - (Wd.hi db % 4294967296#64)) + 4294967296#64 * (4294967295#64 - (Wd.hi db / 4294967296#64))) ((4294967295#64 - (Wd.lo db % 4294967296#64)) + 4294967296#64 * (4294967295#64 - (Wd.lo db / 4294967296#64))))) + 1#128)).toNat), .int .u64 ((Wd.lo ((da + (Wd.mk ((4294967295#64 - (Wd.hi db % 4294967296#64)) + 4294967296#64 * (4294967295#64 - (Wd.hi db / 4294967296#64))) ((4294967295#64 - (Wd.lo db % 4294967296#64)) + 4294967296#64 * (4294967295#64 - (Wd.lo db / 4294967296#64))))) + 1#128)).toNat)]), (36, .bool (Wd.over (da + (Wd.mk ((4294967295#64 - (Wd.hi db % 4294967296#64)) + 4294967296#64 * (4294967295#64 - (Wd.hi db / 4294967296#64))) ((4294967295#64 - (Wd.lo db % 4294967296#64)) + 4294967296#64 * (4294967295#64 - (Wd.lo db / 4294967296#64))))) 1#128)), (10, .pointer (some ⟨g6, 0, none⟩)), (5, .bool true)]) ⟨rfl, rfl, rfl, rfl, rfl, rfl, rfl, rfl, rfl, rfl, rfl, rfl, rfl, rfl, rfl, rfl, rfl, rfl, rfl, rfl, rfl, rfl, rfl, rfl, rfl, rfl, rfl, rfl, trivial⟩
        refine hK21 _ _ ?_
        refine wp_ret ?_
        try dsimp only [Exit.then, Exit.inBlock, Exit.jump]
        refine Sx.ret2 F Try.results24 (Sx.res_row (i := 2) (xs := [.int .u64 ((Wd.hi ((da + (Wd.mk ((4294967295#64 - (Wd.hi db % 4294967296#64)) + 4294967296#64 * (4294967295#64 - (Wd.hi db / 4294967296#64))) ((4294967295#64 - (Wd.lo db % 4294967296#64)) + 4294967296#64 * (4294967295#64 - (Wd.lo db / 4294967296#64))))) + 1#128)).toNat), .int .u64 ((Wd.lo ((da + (Wd.mk ((4294967295#64 - (Wd.hi db % 4294967296#64)) + 4294967296#64 * (4294967295#64 - (Wd.hi db / 4294967296#64))) ((4294967295#64 - (Wd.lo db % 4294967296#64)) + 4294967296#64 * (4294967295#64 - (Wd.lo db / 4294967296#64))))) + 1#128)).toNat)]) rw_43 F H rfl rfl rfl rfl) (Sx.res_tmp (v := .bool true) F rfl) ⟨?_, H.below⟩
        exact congrArg Ending.returned (by rw [R1.sub_dig da db _ (R1.compl db), R1.less_t hl])
    · by_cases hm : (Wd.lo da).toNat < (Wd.lo db).toNat
      · skip
        refine Sx.seq (fun K22 hK22 => ?_)
        have F := Sx.Fr.to F (kv' := [(0, .agg #[.int .u64 ((Wd.hi da).toNat), .int .u64 ((Wd.lo da).toNat)]), (1, .agg #[.int .u64 ((Wd.hi db).toNat), .int .u64 ((Wd.lo db).toNat)]), (2, .pointer (some ⟨g1, 0, none⟩)), (3, .pointer (some ⟨g2, 0, none⟩)), (4, .pointer (some ⟨g3, 0, none⟩)), (12, .agg #[.int .u64 ((Wd.hi db).toNat), .int .u64 ((Wd.lo db).toNat)]), (13, .agg #[.int .u64 ((Wd.lo db % 4294967296#64).toNat), .int .u64 ((Wd.lo db / 4294967296#64).toNat), .int .u64 ((Wd.hi db % 4294967296#64).toNat), .int .u64 ((Wd.hi db / 4294967296#64).toNat)]), (6, .pointer (some ⟨g4, 0, none⟩)), (7, .int .i64 4), (14, .int .i64 4), (15, .bool false), (18, .int .i64 3), (19, .int .i64 3), (20, .pointer (some ⟨g4, 3, none⟩)), (21, .int .u64 ((Wd.hi db / 4294967296#64).toNat)), (22, .int .u64 ((4294967295#64 - (Wd.hi db / 4294967296#64)).toNat)), (23, .pointer (some ⟨g4, 3, none⟩)), (16, .int .i64 3), (17, .int .i64 4), (8, .pointer (some ⟨g5, 0, none⟩)), (32, .agg #[.int .u64 ((Wd.hi (da + (Wd.mk ((4294967295#64 - (Wd.hi db % 4294967296#64)) + 4294967296#64 * (4294967295#64 - (Wd.hi db / 4294967296#64))) ((4294967295#64 - (Wd.lo db % 4294967296#64)) + 4294967296#64 * (4294967295#64 - (Wd.lo db / 4294967296#64)))))).toNat), .int .u64 ((Wd.lo (da + (Wd.mk ((4294967295#64 - (Wd.hi db % 4294967296#64)) + 4294967296#64 * (4294967295#64 - (Wd.hi db / 4294967296#64))) ((4294967295#64 - (Wd.lo db % 4294967296#64)) + 4294967296#64 * (4294967295#64 - (Wd.lo db / 4294967296#64)))))).toNat)]), (33, .agg #[.int .u64 ((Wd.hi 1#128).toNat), .int .u64 ((Wd.lo 1#128).toNat)]), (34, .tuple #[.agg #[.int .u64 ((Wd.hi ((da + (Wd.mk ((4294967295#64 - (Wd.hi db % 4294967296#64)) + 4294967296#64 * (4294967295#64 - (Wd.hi db / 4294967296#64))) ((4294967295#64 - (Wd.lo db % 4294967296#64)) + 4294967296#64 * (4294967295#64 - (Wd.lo db / 4294967296#64))))) + 1#128)).toNat), .int .u64 ((Wd.lo ((da + (Wd.mk ((4294967295#64 - (Wd.hi db % 4294967296#64)) + 4294967296#64 * (4294967295#64 - (Wd.hi db / 4294967296#64))) ((4294967295#64 - (Wd.lo db % 4294967296#64)) + 4294967296#64 * (4294967295#64 - (Wd.lo db / 4294967296#64))))) + 1#128)).toNat)], .bool (Wd.over (da + (Wd.mk ((4294967295#64 - (Wd.hi db % 4294967296#64)) + 4294967296#64 * (4294967295#64 - (Wd.hi db / 4294967296#64))) ((4294967295#64 - (Wd.lo db % 4294967296#64)) + 4294967296#64 * (4294967295#64 - (Wd.lo db / 4294967296#64))))) 1#128)]), (31, .tuple #[.agg #[.int .u64 ((Wd.hi ((da + (Wd.mk ((4294967295#64 - (Wd.hi db % 4294967296#64)) + 4294967296#64 * (4294967295#64 - (Wd.hi db / 4294967296#64))) ((4294967295#64 - (Wd.lo db % 4294967296#64)) + 4294967296#64 * (4294967295#64 - (Wd.lo db / 4294967296#64))))) + 1#128)).toNat), .int .u64 ((Wd.lo ((da + (Wd.mk ((4294967295#64 - (Wd.hi db % 4294967296#64)) + 4294967296#64 * (4294967295#64 - (Wd.hi db / 4294967296#64))) ((4294967295#64 - (Wd.lo db % 4294967296#64)) + 4294967296#64 * (4294967295#64 - (Wd.lo db / 4294967296#64))))) + 1#128)).toNat)], .bool (Wd.over (da + (Wd.mk ((4294967295#64 - (Wd.hi db % 4294967296#64)) + 4294967296#64 * (4294967295#64 - (Wd.hi db / 4294967296#64))) ((4294967295#64 - (Wd.lo db % 4294967296#64)) + 4294967296#64 * (4294967295#64 - (Wd.lo db / 4294967296#64))))) 1#128)]), (35, .agg #[.int .u64 ((Wd.hi ((da + (Wd.mk ((4294967295#64 - (Wd.hi db % 4294967296#64)) + 4294967296#64 * (4294967295#64 - (Wd.hi db / 4294967296#64))) ((4294967295#64 - (Wd.lo db % 4294967296#64)) + 4294967296#64 * (4294967295#64 - (Wd.lo db / 4294967296#64))))) + 1#128)).toNat), .int .u64 ((Wd.lo ((da + (Wd.mk ((4294967295#64 - (Wd.hi db % 4294967296#64)) + 4294967296#64 * (4294967295#64 - (Wd.hi db / 4294967296#64))) ((4294967295#64 - (Wd.lo db % 4294967296#64)) + 4294967296#64 * (4294967295#64 - (Wd.lo db / 4294967296#64))))) + 1#128)).toNat)]), (36, .bool (Wd.over (da + (Wd.mk ((4294967295#64 - (Wd.hi db % 4294967296#64)) + 4294967296#64 * (4294967295#64 - (Wd.hi db / 4294967296#64))) ((4294967295#64 - (Wd.lo db % 4294967296#64)) + 4294967296#64 * (4294967295#64 - (Wd.lo db / 4294967296#64))))) 1#128)), (10, .pointer (some ⟨g6, 0, none⟩)), (11, .bool (Wd.over (da + (Wd.mk ((4294967295#64 - (Wd.hi db % 4294967296#64)) + 4294967296#64 * (4294967295#64 - (Wd.hi db / 4294967296#64))) ((4294967295#64 - (Wd.lo db % 4294967296#64)) + 4294967296#64 * (4294967295#64 - (Wd.lo db / 4294967296#64))))) 1#128))]) ⟨rfl, rfl, rfl, rfl, rfl, rfl, rfl, rfl, rfl, rfl, rfl, rfl, rfl, rfl, rfl, rfl, rfl, rfl, rfl, rfl, rfl, rfl, rfl, rfl, rfl, rfl, rfl, rfl, trivial⟩
        refine Sx.drawn F (by kernel_rfl) (by kernel_rfl) (by kernel_rfl) [some (.agg #[.int .u64 ((Wd.hi ((da + (Wd.mk ((4294967295#64 - (Wd.hi db % 4294967296#64)) + 4294967296#64 * (4294967295#64 - (Wd.hi db / 4294967296#64))) ((4294967295#64 - (Wd.lo db % 4294967296#64)) + 4294967296#64 * (4294967295#64 - (Wd.lo db / 4294967296#64))))) + 1#128)).toNat), .int .u64 ((Wd.lo ((da + (Wd.mk ((4294967295#64 - (Wd.hi db % 4294967296#64)) + 4294967296#64 * (4294967295#64 - (Wd.hi db / 4294967296#64))) ((4294967295#64 - (Wd.lo db % 4294967296#64)) + 4294967296#64 * (4294967295#64 - (Wd.lo db / 4294967296#64))))) + 1#128)).toNat)]), some (.pointer (some ⟨g1, 0, none⟩)), some (.int .u64 ((Wd.hi da).toNat)), some (.pointer (some ⟨g2, 0, none⟩)), some (.int .u64 ((Wd.hi db).toNat)), some (.bool false), some (.bool false), some (.pointer (some ⟨g1, 0, none⟩)), some (.int .u64 ((Wd.hi da).toNat)), some (.pointer (some ⟨g2, 0, none⟩)), some (.int .u64 ((Wd.hi db).toNat)), some (.bool true), some (.bool true), some (.pointer (some ⟨g1, 1, none⟩)), some (.int .u64 ((Wd.lo da).toNat)), some (.pointer (some ⟨g2, 1, none⟩)), some (.int .u64 ((Wd.lo db).toNat)), some (.bool true), some (.bool true), some (.bool true), none, some (.bool true)] (fun L A w => Sx.Own w0 w [(true, g6, [.int .u64 ((Wd.hi ((da + (Wd.mk ((4294967295#64 - (Wd.hi db % 4294967296#64)) + 4294967296#64 * (4294967295#64 - (Wd.hi db / 4294967296#64))) ((4294967295#64 - (Wd.lo db % 4294967296#64)) + 4294967296#64 * (4294967295#64 - (Wd.lo db / 4294967296#64))))) + 1#128)).toNat), .int .u64 ((Wd.lo ((da + (Wd.mk ((4294967295#64 - (Wd.hi db % 4294967296#64)) + 4294967296#64 * (4294967295#64 - (Wd.hi db / 4294967296#64))) ((4294967295#64 - (Wd.lo db % 4294967296#64)) + 4294967296#64 * (4294967295#64 - (Wd.lo db / 4294967296#64))))) + 1#128)).toNat)]), (true, g4, [.int .u64 ((4294967295#64 - (Wd.lo db % 4294967296#64)).toNat), .int .u64 ((4294967295#64 - (Wd.lo db / 4294967296#64)).toNat), .int .u64 ((4294967295#64 - (Wd.hi db % 4294967296#64)).toNat), .int .u64 ((4294967295#64 - (Wd.hi db / 4294967296#64)).toNat)]), (true, g3, (cond (L 20) [.int .u64 ((Wd.hi ((da + (Wd.mk ((4294967295#64 - (Wd.hi db % 4294967296#64)) + 4294967296#64 * (4294967295#64 - (Wd.hi db / 4294967296#64))) ((4294967295#64 - (Wd.lo db % 4294967296#64)) + 4294967296#64 * (4294967295#64 - (Wd.lo db / 4294967296#64))))) + 1#128)).toNat), .int .u64 ((Wd.lo ((da + (Wd.mk ((4294967295#64 - (Wd.hi db % 4294967296#64)) + 4294967296#64 * (4294967295#64 - (Wd.hi db / 4294967296#64))) ((4294967295#64 - (Wd.lo db % 4294967296#64)) + 4294967296#64 * (4294967295#64 - (Wd.lo db / 4294967296#64))))) + 1#128)).toNat)] [.int .u64 ((Wd.hi 0#128).toNat), .int .u64 ((Wd.lo 0#128).toNat)])), (true, g2, [.int .u64 ((Wd.hi db).toNat), .int .u64 ((Wd.lo db).toNat)]), (true, g1, [.int .u64 ((Wd.hi da).toNat), .int .u64 ((Wd.lo da).toNat)]), (true, g5, [.int .u64 ((Wd.hi (da + (Wd.mk ((4294967295#64 - (Wd.hi db % 4294967296#64)) + 4294967296#64 * (4294967295#64 - (Wd.hi db / 4294967296#64))) ((4294967295#64 - (Wd.lo db % 4294967296#64)) + 4294967296#64 * (4294967295#64 - (Wd.lo db / 4294967296#64)))))).toNat), .int .u64 ((Wd.lo (da + (Wd.mk ((4294967295#64 - (Wd.hi db % 4294967296#64)) + 4294967296#64 * (4294967295#64 - (Wd.hi db / 4294967296#64))) ((4294967295#64 - (Wd.lo db % 4294967296#64)) + 4294967296#64 * (4294967295#64 - (Wd.lo db / 4294967296#64)))))).toNat)])] []) H.drew ?_ ?_
        · refine ⟨?_, ?_, ?_, ?_, ?_, ?_, ?_, ?_, ?_, ?_, ?_, ?_, ?_, ?_, ?_, ?_, ?_, ?_, ?_, ?_, ?_, ?_, trivial⟩
          · show Sx.StepAt _ _ _ _ _ _ _ 0
            intro L A w up hun hd F H
            have f20 : L 20 = false := up 20 0 rfl hun
            rw [f20] at H
            have F := Sx.Fr.to F (kv' := [(10, .pointer (some ⟨g6, 0, none⟩))]) ⟨rfl, trivial⟩
            refine Sx.step_on rfl (Sx.d_load (i := 0) (xs := [.int .u64 ((Wd.hi ((da + (Wd.mk ((4294967295#64 - (Wd.hi db % 4294967296#64)) + 4294967296#64 * (4294967295#64 - (Wd.hi db / 4294967296#64))) ((4294967295#64 - (Wd.lo db % 4294967296#64)) + 4294967296#64 * (4294967295#64 - (Wd.lo db / 4294967296#64))))) + 1#128)).toNat), .int .u64 ((Wd.lo ((da + (Wd.mk ((4294967295#64 - (Wd.hi db % 4294967296#64)) + 4294967296#64 * (4294967295#64 - (Wd.hi db / 4294967296#64))) ((4294967295#64 - (Wd.lo db % 4294967296#64)) + 4294967296#64 * (4294967295#64 - (Wd.lo db / 4294967296#64))))) + 1#128)).toNat)]) rw_43 F H rfl rfl rfl rfl rfl) ?_
            rintro xv w' ⟨hx, rfl⟩
            exact ⟨(fun cv hc => hx.trans (Option.some.inj (Option.some.inj hc))), (by show Sx.Own _ _ _ _; rw [show Inv.add L 0 20 = false from f20]; exact H)⟩
          · show Sx.StepAt _ _ _ _ _ _ _ 1
            intro L A w up hun hd F H
            have f2 : L 2 = false := up 2 1 rfl hun
            have f5 : L 5 = false := up 5 2 rfl f2
            have f6 : L 6 = false := up 6 5 rfl f5
            have f12 : L 12 = false := up 12 6 rfl f6
            have f20 : L 20 = false := up 20 12 rfl f12
            rw [f20] at H
            have F := Sx.Fr.to F (kv' := [(2, .pointer (some ⟨g1, 0, none⟩))]) ⟨rfl, trivial⟩
            refine Sx.step_on rfl (Sx.d_faddr (v := .pointer (some ⟨g1, 0, none⟩)) F rfl rfl (fa_43_0 _ 0 _)) ?_
            rintro xv w' ⟨hx, rfl⟩
            exact ⟨(fun cv hc => hx.trans (Option.some.inj (Option.some.inj hc))), (by show Sx.Own _ _ _ _; rw [show Inv.add L 1 20 = false from f20]; exact H)⟩
          · show Sx.StepAt _ _ _ _ _ _ _ 2
            intro L A w up hun hd F H
            have f5 : L 5 = false := up 5 2 rfl hun
            have f6 : L 6 = false := up 6 5 rfl f5
            have f12 : L 12 = false := up 12 6 rfl f6
            have f20 : L 20 = false := up 20 12 rfl f12
            rw [f20] at H
            have F := Sx.Fr.to F (kv' := [(38, .pointer (some ⟨g1, 0, none⟩))]) ⟨rfl, trivial⟩
            refine Sx.step_on rfl (Sx.d_load1 (i := 4) (v := .int .u64 ((Wd.hi da).toNat)) one_22 F H rfl rfl rfl rfl) ?_
            rintro xv w' ⟨hx, rfl⟩
            exact ⟨(fun cv hc => hx.trans (Option.some.inj (Option.some.inj hc))), (by show Sx.Own _ _ _ _; rw [show Inv.add L 2 20 = false from f20]; exact H)⟩
          · show Sx.StepAt _ _ _ _ _ _ _ 3
            intro L A w up hun hd F H
            have f4 : L 4 = false := up 4 3 rfl hun
            have f5 : L 5 = false := up 5 4 rfl f4
            have f6 : L 6 = false := up 6 5 rfl f5
            have f12 : L 12 = false := up 12 6 rfl f6
            have f20 : L 20 = false := up 20 12 rfl f12
            rw [f20] at H
            have F := Sx.Fr.to F (kv' := [(3, .pointer (some ⟨g2, 0, none⟩))]) ⟨rfl, trivial⟩
            refine Sx.step_on rfl (Sx.d_faddr (v := .pointer (some ⟨g2, 0, none⟩)) F rfl rfl (fa_43_0 _ 0 _)) ?_
            rintro xv w' ⟨hx, rfl⟩
            exact ⟨(fun cv hc => hx.trans (Option.some.inj (Option.some.inj hc))), (by show Sx.Own _ _ _ _; rw [show Inv.add L 3 20 = false from f20]; exact H)⟩
          · show Sx.StepAt _ _ _ _ _ _ _ 4
            intro L A w up hun hd F H
            have f5 : L 5 = false := up 5 4 rfl hun
            have f6 : L 6 = false := up 6 5 rfl f5
            have f12 : L 12 = false := up 12 6 rfl f6
            have f20 : L 20 = false := up 20 12 rfl f12
            rw [f20] at H
            have F := Sx.Fr.to F (kv' := [(40, .pointer (some ⟨g2, 0, none⟩))]) ⟨rfl, trivial⟩
            refine Sx.step_on rfl (Sx.d_load1 (i := 3) (v := .int .u64 ((Wd.hi db).toNat)) one_22 F H rfl rfl rfl rfl) ?_
            rintro xv w' ⟨hx, rfl⟩
            exact ⟨(fun cv hc => hx.trans (Option.some.inj (Option.some.inj hc))), (by show Sx.Own _ _ _ _; rw [show Inv.add L 4 20 = false from f20]; exact H)⟩
          · show Sx.StepAt _ _ _ _ _ _ _ 5
            intro L A w up hun hd F H
            have f6 : L 6 = false := up 6 5 rfl hun
            have f12 : L 12 = false := up 12 6 rfl f6
            have f20 : L 20 = false := up 20 12 rfl f12
            rw [f20] at H
            have F := Sx.Fr.to F (kv' := [(39, .int .u64 ((Wd.hi da).toNat)), (41, .int .u64 ((Wd.hi db).toNat))]) ⟨rfl, rfl, trivial⟩
            refine Sx.step_on rfl (Sx.d_bin (v := .bool false) F rfl rfl rfl (Sx.i_lt (decide_eq_false (by omega)))) ?_
            rintro xv w' ⟨hx, rfl⟩
            exact ⟨(fun cv hc => hx.trans (Option.some.inj (Option.some.inj hc))), (by show Sx.Own _ _ _ _; rw [show Inv.add L 5 20 = false from f20]; exact H)⟩
          · show Sx.StepAt _ _ _ _ _ _ _ 6
            intro L A w up hun hd F H
            have f12 : L 12 = false := up 12 6 rfl hun
            have f20 : L 20 = false := up 20 12 rfl f12
            rw [f20] at H
            have F := Sx.Fr.to F (kv' := [(42, .bool false)]) ⟨rfl, trivial⟩
            refine Sx.step_on rfl (Sx.d_move F (Or.inl rfl) rfl) ?_
            rintro xv w' ⟨hx, rfl⟩
            exact ⟨(fun cv hc => hx.trans (Option.some.inj (Option.some.inj hc))), (by show Sx.Own _ _ _ _; rw [show Inv.add L 6 20 = false from f20]; exact H)⟩
          · show Sx.StepAt _ _ _ _ _ _ _ 7
            intro L A w up hun hd F H
            have f8 : L 8 = false := up 8 7 rfl hun
            have f11 : L 11 = false := up 11 8 rfl f8
            have f12 : L 12 = false := up 12 11 rfl f11
            have f20 : L 20 = false := up 20 12 rfl f12
            rw [f20] at H
            have F := Sx.Fr.to F (kv' := [(2, .pointer (some ⟨g1, 0, none⟩)), (43, .bool false)]) ⟨rfl, rfl, trivial⟩
            refine Sx.step_ong rfl (Sx.guard_known (d := 43) (b := false) F rfl rfl) rfl (Sx.d_faddr (v := .pointer (some ⟨g1, 0, none⟩)) F rfl rfl (fa_43_0 _ 0 _)) ?_
            rintro xv w' ⟨hx, rfl⟩
            exact ⟨(fun cv hc => hx.trans (Option.some.inj (Option.some.inj hc))), (by show Sx.Own _ _ _ _; rw [show Inv.add L 7 20 = false from f20]; exact H)⟩
          · show Sx.StepAt _ _ _ _ _ _ _ 8
            intro L A w up hun hd F H
            have f11 : L 11 = false := up 11 8 rfl hun
            have f12 : L 12 = false := up 12 11 rfl f11
            have f20 : L 20 = false := up 20 12 rfl f12
            rw [f20] at H
            have F := Sx.Fr.to F (kv' := [(44, .pointer (some ⟨g1, 0, none⟩)), (43, .bool false)]) ⟨rfl, rfl, trivial⟩
            refine Sx.step_ong rfl (Sx.guard_known (d := 43) (b := false) F rfl rfl) rfl (Sx.d_load1 (i := 4) (v := .int .u64 ((Wd.hi da).toNat)) one_22 F H rfl rfl rfl rfl) ?_
            rintro xv w' ⟨hx, rfl⟩
            exact ⟨(fun cv hc => hx.trans (Option.some.inj (Option.some.inj hc))), (by show Sx.Own _ _ _ _; rw [show Inv.add L 8 20 = false from f20]; exact H)⟩
          · show Sx.StepAt _ _ _ _ _ _ _ 9
            intro L A w up hun hd F H
            have f10 : L 10 = false := up 10 9 rfl hun
            have f11 : L 11 = false := up 11 10 rfl f10
            have f12 : L 12 = false := up 12 11 rfl f11
            have f20 : L 20 = false := up 20 12 rfl f12
            rw [f20] at H
            have F := Sx.Fr.to F (kv' := [(3, .pointer (some ⟨g2, 0, none⟩)), (43, .bool false)]) ⟨rfl, rfl, trivial⟩
            refine Sx.step_ong rfl (Sx.guard_known (d := 43) (b := false) F rfl rfl) rfl (Sx.d_faddr (v := .pointer (some ⟨g2, 0, none⟩)) F rfl rfl (fa_43_0 _ 0 _)) ?_
            rintro xv w' ⟨hx, rfl⟩
            exact ⟨(fun cv hc => hx.trans (Option.some.inj (Option.some.inj hc))), (by show Sx.Own _ _ _ _; rw [show Inv.add L 9 20 = false from f20]; exact H)⟩
          · show Sx.StepAt _ _ _ _ _ _ _ 10
            intro L A w up hun hd F H
            have f11 : L 11 = false := up 11 10 rfl hun
            have f12 : L 12 = false := up 12 11 rfl f11
            have f20 : L 20 = false := up 20 12 rfl f12
            rw [f20] at H
            have F := Sx.Fr.to F (kv' := [(46, .pointer (some ⟨g2, 0, none⟩)), (43, .bool false)]) ⟨rfl, rfl, trivial⟩
            refine Sx.step_ong rfl (Sx.guard_known (d := 43) (b := false) F rfl rfl) rfl (Sx.d_load1 (i := 3) (v := .int .u64 ((Wd.hi db).toNat)) one_22 F H rfl rfl rfl rfl) ?_
            rintro xv w' ⟨hx, rfl⟩
            exact ⟨(fun cv hc => hx.trans (Option.some.inj (Option.some.inj hc))), (by show Sx.Own _ _ _ _; rw [show Inv.add L 10 20 = false from f20]; exact H)⟩
          · show Sx.StepAt _ _ _ _ _ _ _ 11
            intro L A w up hun hd F H
            have f12 : L 12 = false := up 12 11 rfl hun
            have f20 : L 20 = false := up 20 12 rfl f12
            rw [f20] at H
            have F := Sx.Fr.to F (kv' := [(45, .int .u64 ((Wd.hi da).toNat)), (47, .int .u64 ((Wd.hi db).toNat)), (43, .bool false)]) ⟨rfl, rfl, rfl, trivial⟩
            refine Sx.step_ong rfl (Sx.guard_known (d := 43) (b := false) F rfl rfl) rfl (Sx.d_bin (v := .bool true) F rfl rfl rfl (Sx.i_eq (beq_iff_eq.2 (by omega)))) ?_
            rintro xv w' ⟨hx, rfl⟩
            exact ⟨(fun cv hc => hx.trans (Option.some.inj (Option.some.inj hc))), (by show Sx.Own _ _ _ _; rw [show Inv.add L 11 20 = false from f20]; exact H)⟩
          · show Sx.StepAt _ _ _ _ _ _ _ 12
            intro L A w up hun hd F H
            have f20 : L 20 = false := up 20 12 rfl hun
            rw [f20] at H
            have F := Sx.Fr.to F (kv' := [(48, .bool true), (43, .bool false)]) ⟨rfl, rfl, trivial⟩
            refine Sx.step_ong rfl (Sx.guard_known (d := 43) (b := false) F rfl rfl) rfl (Sx.d_move F (Or.inl rfl) rfl) ?_
            rintro xv w' ⟨hx, rfl⟩
            exact ⟨(fun cv hc => hx.trans (Option.some.inj (Option.some.inj hc))), (by show Sx.Own _ _ _ _; rw [show Inv.add L 12 20 = false from f20]; exact H)⟩
          · show Sx.StepAt _ _ _ _ _ _ _ 13
            intro L A w up hun hd F H
            have F := Sx.Fr.to F (kv' := [(2, .pointer (some ⟨g1, 0, none⟩)), (49, .bool true)]) ⟨rfl, rfl, trivial⟩
            refine Sx.step_ong rfl (Sx.guard_known (d := 49) (b := true) F rfl rfl) rfl (Sx.d_faddr (v := .pointer (some ⟨g1, 1, none⟩)) F rfl rfl (fa_43_1 _ 0 _)) ?_
            rintro xv w' ⟨hx, rfl⟩
            exact ⟨(fun cv hc => hx.trans (Option.some.inj (Option.some.inj hc))), H⟩
          · show Sx.StepAt _ _ _ _ _ _ _ 14
            intro L A w up hun hd F H
            have F := Sx.Fr.to F (kv' := [(50, .pointer (some ⟨g1, 1, none⟩)), (49, .bool true)]) ⟨rfl, rfl, trivial⟩
            refine Sx.step_ong rfl (Sx.guard_known (d := 49) (b := true) F rfl rfl) rfl (Sx.d_load1 (i := 4) (v := .int .u64 ((Wd.lo da).toNat)) one_22 F H rfl rfl rfl rfl) ?_
            rintro xv w' ⟨hx, rfl⟩
            exact ⟨(fun cv hc => hx.trans (Option.some.inj (Option.some.inj hc))), H⟩
          · show Sx.StepAt _ _ _ _ _ _ _ 15
            intro L A w up hun hd F H
            have F := Sx.Fr.to F (kv' := [(3, .pointer (some ⟨g2, 0, none⟩)), (49, .bool true)]) ⟨rfl, rfl, trivial⟩
            refine Sx.step_ong rfl (Sx.guard_known (d := 49) (b := true) F rfl rfl) rfl (Sx.d_faddr (v := .pointer (some ⟨g2, 1, none⟩)) F rfl rfl (fa_43_1 _ 0 _)) ?_
            rintro xv w' ⟨hx, rfl⟩
            exact ⟨(fun cv hc => hx.trans (Option.some.inj (Option.some.inj hc))), H⟩
          · show Sx.StepAt _ _ _ _ _ _ _ 16
            intro L A w up hun hd F H
            have F := Sx.Fr.to F (kv' := [(52, .pointer (some ⟨g2, 1, none⟩)), (49, .bool true)]) ⟨rfl, rfl, trivial⟩
            refine Sx.step_ong rfl (Sx.guard_known (d := 49) (b := true) F rfl rfl) rfl (Sx.d_load1 (i := 3) (v := .int .u64 ((Wd.lo db).toNat)) one_22 F H rfl rfl rfl rfl) ?_
            rintro xv w' ⟨hx, rfl⟩
            exact ⟨(fun cv hc => hx.trans (Option.some.inj (Option.some.inj hc))), H⟩
          · show Sx.StepAt _ _ _ _ _ _ _ 17
            intro L A w up hun hd F H
            have F := Sx.Fr.to F (kv' := [(51, .int .u64 ((Wd.lo da).toNat)), (53, .int .u64 ((Wd.lo db).toNat)), (49, .bool true)]) ⟨rfl, rfl, rfl, trivial⟩
            refine Sx.step_ong rfl (Sx.guard_known (d := 49) (b := true) F rfl rfl) rfl (Sx.d_bin (v := .bool true) F rfl rfl rfl (Sx.i_lt (decide_eq_true (by omega)))) ?_
            rintro xv w' ⟨hx, rfl⟩
            exact ⟨(fun cv hc => hx.trans (Option.some.inj (Option.some.inj hc))), H⟩
          · show Sx.StepAt _ _ _ _ _ _ _ 18
            intro L A w up hun hd F H
            have F := Sx.Fr.to F (kv' := [(49, .bool true), (54, .bool true), (43, .bool false)]) ⟨rfl, rfl, rfl, trivial⟩
            refine Sx.step_ong rfl (Sx.guard_known (d := 43) (b := false) F rfl rfl) rfl (Sx.d_pickT (v := .bool true) F rfl rfl rfl) ?_
            rintro xv w' ⟨hx, rfl⟩
            exact ⟨(fun cv hc => hx.trans (Option.some.inj (Option.some.inj hc))), H⟩
          · show Sx.StepAt _ _ _ _ _ _ _ 19
            intro L A w up hun hd F H
            have F := Sx.Fr.to F (kv' := [(43, .bool false), (55, .bool true)]) ⟨rfl, rfl, trivial⟩
            refine Sx.step_on rfl (Sx.d_pickF (v := .bool true) F rfl rfl rfl) ?_
            rintro xv w' ⟨hx, rfl⟩
            exact ⟨(fun cv hc => hx.trans (Option.some.inj (Option.some.inj hc))), H⟩
          · show Sx.StepAt _ _ _ _ _ _ _ 20
            intro L A w up hun hd F H
            have f20 : L 20 = false := hun
            rw [f20] at H
            have F := Sx.Fr.to F (kv' := [(4, .pointer (some ⟨g3, 0, none⟩)), (37, .agg #[.int .u64 ((Wd.hi ((da + (Wd.mk ((4294967295#64 - (Wd.hi db % 4294967296#64)) + 4294967296#64 * (4294967295#64 - (Wd.hi db / 4294967296#64))) ((4294967295#64 - (Wd.lo db % 4294967296#64)) + 4294967296#64 * (4294967295#64 - (Wd.lo db / 4294967296#64))))) + 1#128)).toNat), .int .u64 ((Wd.lo ((da + (Wd.mk ((4294967295#64 - (Wd.hi db % 4294967296#64)) + 4294967296#64 * (4294967295#64 - (Wd.hi db / 4294967296#64))) ((4294967295#64 - (Wd.lo db % 4294967296#64)) + 4294967296#64 * (4294967295#64 - (Wd.lo db / 4294967296#64))))) + 1#128)).toNat)])]) ⟨rfl, rfl, trivial⟩
            refine Sx.step_on rfl (Sx.d_store (i := 2) (xs := [.int .u64 ((Wd.hi ((da + (Wd.mk ((4294967295#64 - (Wd.hi db % 4294967296#64)) + 4294967296#64 * (4294967295#64 - (Wd.hi db / 4294967296#64))) ((4294967295#64 - (Wd.lo db % 4294967296#64)) + 4294967296#64 * (4294967295#64 - (Wd.lo db / 4294967296#64))))) + 1#128)).toNat), .int .u64 ((Wd.lo ((da + (Wd.mk ((4294967295#64 - (Wd.hi db % 4294967296#64)) + 4294967296#64 * (4294967295#64 - (Wd.hi db / 4294967296#64))) ((4294967295#64 - (Wd.lo db % 4294967296#64)) + 4294967296#64 * (4294967295#64 - (Wd.lo db / 4294967296#64))))) + 1#128)).toNat)]) (us := [.int .u64 ((Wd.hi ((da + (Wd.mk ((4294967295#64 - (Wd.hi db % 4294967296#64)) + 4294967296#64 * (4294967295#64 - (Wd.hi db / 4294967296#64))) ((4294967295#64 - (Wd.lo db % 4294967296#64)) + 4294967296#64 * (4294967295#64 - (Wd.lo db / 4294967296#64))))) + 1#128)).toNat), .int .u64 ((Wd.lo ((da + (Wd.mk ((4294967295#64 - (Wd.hi db % 4294967296#64)) + 4294967296#64 * (4294967295#64 - (Wd.hi db / 4294967296#64))) ((4294967295#64 - (Wd.lo db % 4294967296#64)) + 4294967296#64 * (4294967295#64 - (Wd.lo db / 4294967296#64))))) + 1#128)).toNat)]) sz_43 F H rfl rfl rfl rfl rfl rfl rfl (Nat.le_of_ble_eq_true rfl) rfl) ?_
            intro xv w' H
            exact ⟨(fun cv hc => by have h := Option.some.inj hc; cases h), H⟩
          · show Sx.StepAt _ _ _ _ _ _ _ 21
            intro L A w up hun hd F H
            have t20 : L 20 = true := hd 20 rfl
            rw [t20] at H
            have F := Sx.Fr.to F (kv' := [(56, .bool true)]) ⟨rfl, trivial⟩
            refine Sx.step_on rfl (Sx.d_move F (Or.inr rfl) rfl) ?_
            rintro xv w' ⟨hx, rfl⟩
            exact ⟨(fun cv hc => hx.trans (Option.some.inj (Option.some.inj hc))), (by show Sx.Own _ _ _ _; rw [show Inv.add L 21 20 = true from t20]; exact H)⟩
        · intro L A w hL F H
          have t20 : L 20 = true := hL 20 rfl
          rw [t20] at H
          have F := Sx.Fr.to F (kv' := [(0, .agg #[.int .u64 ((Wd.hi da).toNat), .int .u64 ((Wd.lo da).toNat)]), (1, .agg #[.int .u64 ((Wd.hi db).toNat), .int .u64 ((Wd.lo db).toNat)]), (2, .pointer (some ⟨g1, 0, none⟩)), (3, .pointer (some ⟨g2, 0, none⟩)), (4, .pointer (some ⟨g3, 0, none⟩)), (12, .agg #[.int .u64 ((Wd.hi db).toNat), .int .u64 ((Wd.lo db).toNat)]), (13, .agg #[.int .u64 ((Wd.lo db % 4294967296#64).toNat), .int .u64 ((Wd.lo db / 4294967296#64).toNat), .int .u64 ((Wd.hi db % 4294967296#64).toNat), .int .u64 ((Wd.hi db / 4294967296#64).toNat)]), (6, .pointer (some ⟨g4, 0, none⟩)), (7, .int .i64 4), (14, .int .i64 4), (15, .bool false), (18, .int .i64 3), (19, .int .i64 3), (20, .pointer (some ⟨g4, 3, none⟩)), (21, .int .u64 ((Wd.hi db / 4294967296#64).toNat)), (22, .int .u64 ((4294967295#64 - (Wd.hi db / 4294967296#64)).toNat)), (23, .pointer (some ⟨g4, 3, none⟩)), (16, .int .i64 3), (17, .int .i64 4), (8, .pointer (some ⟨g5, 0, none⟩)), (32, .agg #[.int .u64 ((Wd.hi (da + (Wd.mk ((4294967295#64 - (Wd.hi db % 4294967296#64)) + 4294967296#64 * (4294967295#64 - (Wd.hi db / 4294967296#64))) ((4294967295#64 - (Wd.lo db % 4294967296#64)) + 4294967296#64 * (4294967295#64 - (Wd.lo db / 4294967296#64)))))).toNat), .int .u64 ((Wd.lo (da + (Wd.mk ((4294967295#64 - (Wd.hi db % 4294967296#64)) + 4294967296#64 * (4294967295#64 - (Wd.hi db / 4294967296#64))) ((4294967295#64 - (Wd.lo db % 4294967296#64)) + 4294967296#64 * (4294967295#64 - (Wd.lo db / 4294967296#64)))))).toNat)]), (33, .agg #[.int .u64 ((Wd.hi 1#128).toNat), .int .u64 ((Wd.lo 1#128).toNat)]), (34, .tuple #[.agg #[.int .u64 ((Wd.hi ((da + (Wd.mk ((4294967295#64 - (Wd.hi db % 4294967296#64)) + 4294967296#64 * (4294967295#64 - (Wd.hi db / 4294967296#64))) ((4294967295#64 - (Wd.lo db % 4294967296#64)) + 4294967296#64 * (4294967295#64 - (Wd.lo db / 4294967296#64))))) + 1#128)).toNat), .int .u64 ((Wd.lo ((da + (Wd.mk ((4294967295#64 - (Wd.hi db % 4294967296#64)) + 4294967296#64 * (4294967295#64 - (Wd.hi db / 4294967296#64))) ((4294967295#64 - (Wd.lo db % 4294967296#64)) + 4294967296#64 * (4294967295#64 - (Wd.lo db / 4294967296#64))))) + 1#128)).toNat)], .bool (Wd.over (da + (Wd.mk ((4294967295#64 - (Wd.hi db % 4294967296#64)) + 4294967296#64 * (4294967295#64 - (Wd.hi db / 4294967296#64))) ((4294967295#64 - (Wd.lo db % 4294967296#64)) + 4294967296#64 * (4294967295#64 - (Wd.lo db / 4294967296#64))))) 1#128)]), (31, .tuple #[.agg #[.int .u64 ((Wd.hi ((da + (Wd.mk ((4294967295#64 - (Wd.hi db % 4294967296#64)) + 4294967296#64 * (4294967295#64 - (Wd.hi db / 4294967296#64))) ((4294967295#64 - (Wd.lo db % 4294967296#64)) + 4294967296#64 * (4294967295#64 - (Wd.lo db / 4294967296#64))))) + 1#128)).toNat), .int .u64 ((Wd.lo ((da + (Wd.mk ((4294967295#64 - (Wd.hi db % 4294967296#64)) + 4294967296#64 * (4294967295#64 - (Wd.hi db / 4294967296#64))) ((4294967295#64 - (Wd.lo db % 4294967296#64)) + 4294967296#64 * (4294967295#64 - (Wd.lo db / 4294967296#64))))) + 1#128)).toNat)], .bool (Wd.over (da + (Wd.mk ((4294967295#64 - (Wd.hi db % 4294967296#64)) + 4294967296#64 * (4294967295#64 - (Wd.hi db / 4294967296#64))) ((4294967295#64 - (Wd.lo db % 4294967296#64)) + 4294967296#64 * (4294967295#64 - (Wd.lo db / 4294967296#64))))) 1#128)]), (35, .agg #[.int .u64 ((Wd.hi ((da + (Wd.mk ((4294967295#64 - (Wd.hi db % 4294967296#64)) + 4294967296#64 * (4294967295#64 - (Wd.hi db / 4294967296#64))) ((4294967295#64 - (Wd.lo db % 4294967296#64)) + 4294967296#64 * (4294967295#64 - (Wd.lo db / 4294967296#64))))) + 1#128)).toNat), .int .u64 ((Wd.lo ((da + (Wd.mk ((4294967295#64 - (Wd.hi db % 4294967296#64)) + 4294967296#64 * (4294967295#64 - (Wd.hi db / 4294967296#64))) ((4294967295#64 - (Wd.lo db % 4294967296#64)) + 4294967296#64 * (4294967295#64 - (Wd.lo db / 4294967296#64))))) + 1#128)).toNat)]), (36, .bool (Wd.over (da + (Wd.mk ((4294967295#64 - (Wd.hi db % 4294967296#64)) + 4294967296#64 * (4294967295#64 - (Wd.hi db / 4294967296#64))) ((4294967295#64 - (Wd.lo db % 4294967296#64)) + 4294967296#64 * (4294967295#64 - (Wd.lo db / 4294967296#64))))) 1#128)), (10, .pointer (some ⟨g6, 0, none⟩)), (5, .bool true)]) ⟨rfl, rfl, rfl, rfl, rfl, rfl, rfl, rfl, rfl, rfl, rfl, rfl, rfl, rfl, rfl, rfl, rfl, rfl, rfl, rfl, rfl, rfl, rfl, rfl, rfl, rfl, rfl, rfl, trivial⟩
          refine hK22 _ _ ?_
          refine wp_ret ?_
          try dsimp only [Exit.then, Exit.inBlock, Exit.jump]
          refine Sx.ret2 F Try.results24 (Sx.res_row (i := 2) (xs := [.int .u64 ((Wd.hi ((da + (Wd.mk ((4294967295#64 - (Wd.hi db % 4294967296#64)) + 4294967296#64 * (4294967295#64 - (Wd.hi db / 4294967296#64))) ((4294967295#64 - (Wd.lo db % 4294967296#64)) + 4294967296#64 * (4294967295#64 - (Wd.lo db / 4294967296#64))))) + 1#128)).toNat), .int .u64 ((Wd.lo ((da + (Wd.mk ((4294967295#64 - (Wd.hi db % 4294967296#64)) + 4294967296#64 * (4294967295#64 - (Wd.hi db / 4294967296#64))) ((4294967295#64 - (Wd.lo db % 4294967296#64)) + 4294967296#64 * (4294967295#64 - (Wd.lo db / 4294967296#64))))) + 1#128)).toNat)]) rw_43 F H rfl rfl rfl rfl) (Sx.res_tmp (v := .bool true) F rfl) ⟨?_, H.below⟩
          exact congrArg Ending.returned (by rw [R1.sub_dig da db _ (R1.compl db), R1.less_e hl, decide_eq_true hm])
      · skip
        refine Sx.seq (fun K23 hK23 => ?_)
        have F := Sx.Fr.to F (kv' := [(0, .agg #[.int .u64 ((Wd.hi da).toNat), .int .u64 ((Wd.lo da).toNat)]), (1, .agg #[.int .u64 ((Wd.hi db).toNat), .int .u64 ((Wd.lo db).toNat)]), (2, .pointer (some ⟨g1, 0, none⟩)), (3, .pointer (some ⟨g2, 0, none⟩)), (4, .pointer (some ⟨g3, 0, none⟩)), (12, .agg #[.int .u64 ((Wd.hi db).toNat), .int .u64 ((Wd.lo db).toNat)]), (13, .agg #[.int .u64 ((Wd.lo db % 4294967296#64).toNat), .int .u64 ((Wd.lo db / 4294967296#64).toNat), .int .u64 ((Wd.hi db % 4294967296#64).toNat), .int .u64 ((Wd.hi db / 4294967296#64).toNat)]), (6, .pointer (some ⟨g4, 0, none⟩)), (7, .int .i64 4), (14, .int .i64 4), (15, .bool false), (18, .int .i64 3), (19, .int .i64 3), (20, .pointer (some ⟨g4, 3, none⟩)), (21, .int .u64 ((Wd.hi db / 4294967296#64).toNat)), (22, .int .u64 ((4294967295#64 - (Wd.hi db / 4294967296#64)).toNat)), (23, .pointer (some ⟨g4, 3, none⟩)), (16, .int .i64 3), (17, .int .i64 4), (8, .pointer (some ⟨g5, 0, none⟩)), (32, .agg #[.int .u64 ((Wd.hi (da + (Wd.mk ((4294967295#64 - (Wd.hi db % 4294967296#64)) + 4294967296#64 * (4294967295#64 - (Wd.hi db / 4294967296#64))) ((4294967295#64 - (Wd.lo db % 4294967296#64)) + 4294967296#64 * (4294967295#64 - (Wd.lo db / 4294967296#64)))))).toNat), .int .u64 ((Wd.lo (da + (Wd.mk ((4294967295#64 - (Wd.hi db % 4294967296#64)) + 4294967296#64 * (4294967295#64 - (Wd.hi db / 4294967296#64))) ((4294967295#64 - (Wd.lo db % 4294967296#64)) + 4294967296#64 * (4294967295#64 - (Wd.lo db / 4294967296#64)))))).toNat)]), (33, .agg #[.int .u64 ((Wd.hi 1#128).toNat), .int .u64 ((Wd.lo 1#128).toNat)]), (34, .tuple #[.agg #[.int .u64 ((Wd.hi ((da + (Wd.mk ((4294967295#64 - (Wd.hi db % 4294967296#64)) + 4294967296#64 * (4294967295#64 - (Wd.hi db / 4294967296#64))) ((4294967295#64 - (Wd.lo db % 4294967296#64)) + 4294967296#64 * (4294967295#64 - (Wd.lo db / 4294967296#64))))) + 1#128)).toNat), .int .u64 ((Wd.lo ((da + (Wd.mk ((4294967295#64 - (Wd.hi db % 4294967296#64)) + 4294967296#64 * (4294967295#64 - (Wd.hi db / 4294967296#64))) ((4294967295#64 - (Wd.lo db % 4294967296#64)) + 4294967296#64 * (4294967295#64 - (Wd.lo db / 4294967296#64))))) + 1#128)).toNat)], .bool (Wd.over (da + (Wd.mk ((4294967295#64 - (Wd.hi db % 4294967296#64)) + 4294967296#64 * (4294967295#64 - (Wd.hi db / 4294967296#64))) ((4294967295#64 - (Wd.lo db % 4294967296#64)) + 4294967296#64 * (4294967295#64 - (Wd.lo db / 4294967296#64))))) 1#128)]), (31, .tuple #[.agg #[.int .u64 ((Wd.hi ((da + (Wd.mk ((4294967295#64 - (Wd.hi db % 4294967296#64)) + 4294967296#64 * (4294967295#64 - (Wd.hi db / 4294967296#64))) ((4294967295#64 - (Wd.lo db % 4294967296#64)) + 4294967296#64 * (4294967295#64 - (Wd.lo db / 4294967296#64))))) + 1#128)).toNat), .int .u64 ((Wd.lo ((da + (Wd.mk ((4294967295#64 - (Wd.hi db % 4294967296#64)) + 4294967296#64 * (4294967295#64 - (Wd.hi db / 4294967296#64))) ((4294967295#64 - (Wd.lo db % 4294967296#64)) + 4294967296#64 * (4294967295#64 - (Wd.lo db / 4294967296#64))))) + 1#128)).toNat)], .bool (Wd.over (da + (Wd.mk ((4294967295#64 - (Wd.hi db % 4294967296#64)) + 4294967296#64 * (4294967295#64 - (Wd.hi db / 4294967296#64))) ((4294967295#64 - (Wd.lo db % 4294967296#64)) + 4294967296#64 * (4294967295#64 - (Wd.lo db / 4294967296#64))))) 1#128)]), (35, .agg #[.int .u64 ((Wd.hi ((da + (Wd.mk ((4294967295#64 - (Wd.hi db % 4294967296#64)) + 4294967296#64 * (4294967295#64 - (Wd.hi db / 4294967296#64))) ((4294967295#64 - (Wd.lo db % 4294967296#64)) + 4294967296#64 * (4294967295#64 - (Wd.lo db / 4294967296#64))))) + 1#128)).toNat), .int .u64 ((Wd.lo ((da + (Wd.mk ((4294967295#64 - (Wd.hi db % 4294967296#64)) + 4294967296#64 * (4294967295#64 - (Wd.hi db / 4294967296#64))) ((4294967295#64 - (Wd.lo db % 4294967296#64)) + 4294967296#64 * (4294967295#64 - (Wd.lo db / 4294967296#64))))) + 1#128)).toNat)]), (36, .bool (Wd.over (da + (Wd.mk ((4294967295#64 - (Wd.hi db % 4294967296#64)) + 4294967296#64 * (4294967295#64 - (Wd.hi db / 4294967296#64))) ((4294967295#64 - (Wd.lo db % 4294967296#64)) + 4294967296#64 * (4294967295#64 - (Wd.lo db / 4294967296#64))))) 1#128)), (10, .pointer (some ⟨g6, 0, none⟩)), (11, .bool (Wd.over (da + (Wd.mk ((4294967295#64 - (Wd.hi db % 4294967296#64)) + 4294967296#64 * (4294967295#64 - (Wd.hi db / 4294967296#64))) ((4294967295#64 - (Wd.lo db % 4294967296#64)) + 4294967296#64 * (4294967295#64 - (Wd.lo db / 4294967296#64))))) 1#128))]) ⟨rfl, rfl, rfl, rfl, rfl, rfl, rfl, rfl, rfl, rfl, rfl, rfl, rfl, rfl, rfl, rfl, rfl, rfl, rfl, rfl, rfl, rfl, rfl, rfl, rfl, rfl, rfl, rfl, trivial⟩
        refine Sx.drawn F (by kernel_rfl) (by kernel_rfl) (by kernel_rfl) [some (.agg #[.int .u64 ((Wd.hi ((da + (Wd.mk ((4294967295#64 - (Wd.hi db % 4294967296#64)) + 4294967296#64 * (4294967295#64 - (Wd.hi db / 4294967296#64))) ((4294967295#64 - (Wd.lo db % 4294967296#64)) + 4294967296#64 * (4294967295#64 - (Wd.lo db / 4294967296#64))))) + 1#128)).toNat), .int .u64 ((Wd.lo ((da + (Wd.mk ((4294967295#64 - (Wd.hi db % 4294967296#64)) + 4294967296#64 * (4294967295#64 - (Wd.hi db / 4294967296#64))) ((4294967295#64 - (Wd.lo db % 4294967296#64)) + 4294967296#64 * (4294967295#64 - (Wd.lo db / 4294967296#64))))) + 1#128)).toNat)]), some (.pointer (some ⟨g1, 0, none⟩)), some (.int .u64 ((Wd.hi da).toNat)), some (.pointer (some ⟨g2, 0, none⟩)), some (.int .u64 ((Wd.hi db).toNat)), some (.bool false), some (.bool false), some (.pointer (some ⟨g1, 0, none⟩)), some (.int .u64 ((Wd.hi da).toNat)), some (.pointer (some ⟨g2, 0, none⟩)), some (.int .u64 ((Wd.hi db).toNat)), some (.bool true), some (.bool true), some (.pointer (some ⟨g1, 1, none⟩)), some (.int .u64 ((Wd.lo da).toNat)), some (.pointer (some ⟨g2, 1, none⟩)), some (.int .u64 ((Wd.lo db).toNat)), some (.bool false), some (.bool false), some (.bool false), none, some (.bool false)] (fun L A w => Sx.Own w0 w [(true, g6, [.int .u64 ((Wd.hi ((da + (Wd.mk ((4294967295#64 - (Wd.hi db % 4294967296#64)) + 4294967296#64 * (4294967295#64 - (Wd.hi db / 4294967296#64))) ((4294967295#64 - (Wd.lo db % 4294967296#64)) + 4294967296#64 * (4294967295#64 - (Wd.lo db / 4294967296#64))))) + 1#128)).toNat), .int .u64 ((Wd.lo ((da + (Wd.mk ((4294967295#64 - (Wd.hi db % 4294967296#64)) + 4294967296#64 * (4294967295#64 - (Wd.hi db / 4294967296#64))) ((4294967295#64 - (Wd.lo db % 4294967296#64)) + 4294967296#64 * (4294967295#64 - (Wd.lo db / 4294967296#64))))) + 1#128)).toNat)]), (true, g4, [.int .u64 ((4294967295#64 - (Wd.lo db % 4294967296#64)).toNat), .int .u64 ((4294967295#64 - (Wd.lo db / 4294967296#64)).toNat), .int .u64 ((4294967295#64 - (Wd.hi db % 4294967296#64)).toNat), .int .u64 ((4294967295#64 - (Wd.hi db / 4294967296#64)).toNat)]), (true, g3, (cond (L 20) [.int .u64 ((Wd.hi ((da + (Wd.mk ((4294967295#64 - (Wd.hi db % 4294967296#64)) + 4294967296#64 * (4294967295#64 - (Wd.hi db / 4294967296#64))) ((4294967295#64 - (Wd.lo db % 4294967296#64)) + 4294967296#64 * (4294967295#64 - (Wd.lo db / 4294967296#64))))) + 1#128)).toNat), .int .u64 ((Wd.lo ((da + (Wd.mk ((4294967295#64 - (Wd.hi db % 4294967296#64)) + 4294967296#64 * (4294967295#64 - (Wd.hi db / 4294967296#64))) ((4294967295#64 - (Wd.lo db % 4294967296#64)) + 4294967296#64 * (4294967295#64 - (Wd.lo db / 4294967296#64))))) + 1#128)).toNat)] [.int .u64 ((Wd.hi 0#128).toNat), .int .u64 ((Wd.lo 0#128).toNat)])), (true, g2, [.int .u64 ((Wd.hi db).toNat), .int .u64 ((Wd.lo db).toNat)]), (true, g1, [.int .u64 ((Wd.hi da).toNat), .int .u64 ((Wd.lo da).toNat)]), (true, g5, [.int .u64 ((Wd.hi (da + (Wd.mk ((4294967295#64 - (Wd.hi db % 4294967296#64)) + 4294967296#64 * (4294967295#64 - (Wd.hi db / 4294967296#64))) ((4294967295#64 - (Wd.lo db % 4294967296#64)) + 4294967296#64 * (4294967295#64 - (Wd.lo db / 4294967296#64)))))).toNat), .int .u64 ((Wd.lo (da + (Wd.mk ((4294967295#64 - (Wd.hi db % 4294967296#64)) + 4294967296#64 * (4294967295#64 - (Wd.hi db / 4294967296#64))) ((4294967295#64 - (Wd.lo db % 4294967296#64)) + 4294967296#64 * (4294967295#64 - (Wd.lo db / 4294967296#64)))))).toNat)])] []) H.drew ?_ ?_
        · refine ⟨?_, ?_, ?_, ?_, ?_, ?_, ?_, ?_, ?_, ?_, ?_, ?_, ?_, ?_, ?_, ?_, ?_, ?_, ?_, ?_, ?_, ?_, trivial⟩
          · show Sx.StepAt _ _ _ _ _ _ _ 0
            intro L A w up hun hd F H
            have f20 : L 20 = false := up 20 0 rfl hun
            rw [f20] at H
            have F := Sx.Fr.to F (kv' := [(10, .pointer (some ⟨g6, 0, none⟩))]) ⟨rfl, trivial⟩
            refine Sx.step_on rfl (Sx.d_load (i := 0) (xs := [.int .u64 ((Wd.hi ((da + (Wd.mk ((4294967295#64 - (Wd.hi db % 4294967296#64)) + 4294967296#64 * (4294967295#64 - (Wd.hi db / 4294967296#64))) ((4294967295#64 - (Wd.lo db % 4294967296#64)) + 4294967296#64 * (4294967295#64 - (Wd.lo db / 4294967296#64))))) + 1#128)).toNat), .int .u64 ((Wd.lo ((da + (Wd.mk ((4294967295#64 - (Wd.hi db % 4294967296#64)) + 4294967296#64 * (4294967295#64 - (Wd.hi db / 4294967296#64))) ((4294967295#64 - (Wd.lo db % 4294967296#64)) + 4294967296#64 * (4294967295#64 - (Wd.lo db / 4294967296#64))))) + 1#128)).toNat)]) rw_43 F H rfl rfl rfl rfl rfl) ?_
            rintro xv w' ⟨hx, rfl⟩
            exact ⟨(fun cv hc => hx.trans (Option.some.inj (Option.some.inj hc))), (by show Sx.Own _ _ _ _; rw [show Inv.add L 0 20 = false from f20]; exact H)⟩
          · show Sx.StepAt _ _ _ _ _ _ _ 1
            intro L A w up hun hd F H
            have f2 : L 2 = false := up 2 1 rfl hun
            have f5 : L 5 = false := up 5 2 rfl f2
            have f6 : L 6 = false := up 6 5 rfl f5
            have f12 : L 12 = false := up 12 6 rfl f6
            have f20 : L 20 = false := up 20 12 rfl f12
            rw [f20] at H
            have F := Sx.Fr.to F (kv' := [(2, .pointer (some ⟨g1, 0, none⟩))]) ⟨rfl, trivial⟩
            refine Sx.step_on rfl (Sx.d_faddr (v := .pointer (some ⟨g1, 0, none⟩)) F rfl rfl (fa_43_0 _ 0 _)) ?_
            rintro xv w' ⟨hx, rfl⟩
            exact ⟨(fun cv hc => hx.trans (Option.some.inj (Option.some.inj hc))), (by show Sx.Own _ _ _ _; rw [show Inv.add L 1 20 = false from f20]; exact H)⟩
          · show Sx.StepAt _ _ _ _ _ _ _ 2
            intro L A w up hun hd F H
            have f5 : L 5 = false := up 5 2 rfl hun
            have f6 : L 6 = false := up 6 5 rfl f5
            have f12 : L 12 = false := up 12 6 rfl f6
            have f20 : L 20 = false := up 20 12 rfl f12
            rw [f20] at H
            have F := Sx.Fr.to F (kv' := [(38, .pointer (some ⟨g1, 0, none⟩))]) ⟨rfl, trivial⟩
            refine Sx.step_on rfl (Sx.d_load1 (i := 4) (v := .int .u64 ((Wd.hi da).toNat)) one_22 F H rfl rfl rfl rfl) ?_
            rintro xv w' ⟨hx, rfl⟩
            exact ⟨(fun cv hc => hx.trans (Option.some.inj (Option.some.inj hc))), (by show Sx.Own _ _ _ _; rw [show Inv.add L 2 20 = false from f20]; exact H)⟩
          · show Sx.StepAt _ _ _ _ _ _ _ 3
            intro L A w up hun hd F H
            have f4 : L 4 = false := up 4 3 rfl hun
            have f5 : L 5 = false := up 5 4 rfl f4
            have f6 : L 6 = false := up 6 5 rfl f5
            have f12 : L 12 = false := up 12 6 rfl f6
            have f20 : L 20 = false := up 20 12 rfl f12
            rw [f20] at H
            have F := Sx.Fr.to F (kv' := [(3, .pointer (some ⟨g2, 0, none⟩))]) ⟨rfl, trivial⟩
            refine Sx.step_on rfl (Sx.d_faddr (v := .pointer (some ⟨g2, 0, none⟩)) F rfl rfl (fa_43_0 _ 0 _)) ?_
            rintro xv w' ⟨hx, rfl⟩
            exact ⟨(fun cv hc => hx.trans (Option.some.inj (Option.some.inj hc))), (by show Sx.Own _ _ _ _; rw [show Inv.add L 3 20 = false from f20]; exact H)⟩
          · show Sx.StepAt _ _ _ _ _ _ _ 4
            intro L A w up hun hd F H
            have f5 : L 5 = false := up 5 4 rfl hun
            have f6 : L 6 = false := up 6 5 rfl f5
            have f12 : L 12 = false := up 12 6 rfl f6
            have f20 : L 20 = false := up 20 12 rfl f12
            rw [f20] at H
            have F := Sx.Fr.to F (kv' := [(40, .pointer (some ⟨g2, 0, none⟩))]) ⟨rfl, trivial⟩
            refine Sx.step_on rfl (Sx.d_load1 (i := 3) (v := .int .u64 ((Wd.hi db).toNat)) one_22 F H rfl rfl rfl rfl) ?_
            rintro xv w' ⟨hx, rfl⟩
            exact ⟨(fun cv hc => hx.trans (Option.some.inj (Option.some.inj hc))), (by show Sx.Own _ _ _ _; rw [show Inv.add L 4 20 = false from f20]; exact H)⟩
          · show Sx.StepAt _ _ _ _ _ _ _ 5
            intro L A w up hun hd F H
            have f6 : L 6 = false := up 6 5 rfl hun
            have f12 : L 12 = false := up 12 6 rfl f6
            have f20 : L 20 = false := up 20 12 rfl f12
            rw [f20] at H
            have F := Sx.Fr.to F (kv' := [(39, .int .u64 ((Wd.hi da).toNat)), (41, .int .u64 ((Wd.hi db).toNat))]) ⟨rfl, rfl, trivial⟩
            refine Sx.step_on rfl (Sx.d_bin (v := .bool false) F rfl rfl rfl (Sx.i_lt (decide_eq_false (by omega)))) ?_
            rintro xv w' ⟨hx, rfl⟩
            exact ⟨(fun cv hc => hx.trans (Option.some.inj (Option.some.inj hc))), (by show Sx.Own _ _ _ _; rw [show Inv.add L 5 20 = false from f20]; exact H)⟩
          · show Sx.StepAt _ _ _ _ _ _ _ 6
            intro L A w up hun hd F H
            have f12 : L 12 = false := up 12 6 rfl hun
            have f20 : L 20 = false := up 20 12 rfl f12
            rw [f20] at H
            have F := Sx.Fr.to F (kv' := [(42, .bool false)]) ⟨rfl, trivial⟩
            refine Sx.step_on rfl (Sx.d_move F (Or.inl rfl) rfl) ?_
            rintro xv w' ⟨hx, rfl⟩
            exact ⟨(fun cv hc => hx.trans (Option.some.inj (Option.some.inj hc))), (by show Sx.Own _ _ _ _; rw [show Inv.add L 6 20 = false from f20]; exact H)⟩
          · show Sx.StepAt _ _ _ _ _ _ _ 7
            intro L A w up hun hd F H
            have f8 : L 8 = false := up 8 7 rfl hun
            have f11 : L 11 = false := up 11 8 rfl f8
            have f12 : L 12 = false := up 12 11 rfl f11
            have f20 : L 20 = false := up 20 12 rfl f12
            rw [f20] at H
            have F := Sx.Fr.to F (kv' := [(2, .pointer (some ⟨g1, 0, none⟩)), (43, .bool false)]) ⟨rfl, rfl, trivial⟩
            refine Sx.step_ong rfl (Sx.guard_known (d := 43) (b := false) F rfl rfl) rfl (Sx.d_faddr (v := .pointer (some ⟨g1, 0, none⟩)) F rfl rfl (fa_43_0 _ 0 _)) ?_
            rintro xv w' ⟨hx, rfl⟩
            exact ⟨(fun cv hc => hx.trans (Option.some.inj (Option.some.inj hc))), (by show Sx.Own _ _ _ _; rw [show Inv.add L 7 20 = false from f20]; exact H)⟩
          · show Sx.StepAt _ _ _ _ _ _ _ 8
            intro L A w up hun hd F H
            have f11 : L 11 = false := up 11 8 rfl hun
            have f12 : L 12 = false := up 12 11 rfl f11
            have f20 : L 20 = false := up 20 12 rfl f12
            rw [f20] at H
            have F := Sx.Fr.to F (kv' := [(44, .pointer (some ⟨g1, 0, none⟩)), (43, .bool false)]) ⟨rfl, rfl, trivial⟩
            refine Sx.step_ong rfl (Sx.guard_known (d := 43) (b := false) F rfl rfl) rfl (Sx.d_load1 (i := 4) (v := .int .u64 ((Wd.hi da).toNat)) one_22 F H rfl rfl rfl rfl) ?_
            rintro xv w' ⟨hx, rfl⟩
            exact ⟨(fun cv hc => hx.trans (Option.some.inj (Option.some.inj hc))), (by show Sx.Own _ _ _ _; rw [show Inv.add L 8 20 = false from f20]; exact H)⟩
          · show Sx.StepAt _ _ _ _ _ _ _ 9
            intro L A w up hun hd F H
            have f10 : L 10 = false := up 10 9 rfl hun
            have f11 : L 11 = false := up 11 10 rfl f10
            have f12 : L 12 = false := up 12 11 rfl f11
            have f20 : L 20 = false := up 20 12 rfl f12
            rw [f20] at H
            have F := Sx.Fr.to F (kv' := [(3, .pointer (some ⟨g2, 0, none⟩)), (43, .bool false)]) ⟨rfl, rfl, trivial⟩
            refine Sx.step_ong rfl (Sx.guard_known (d := 43) (b := false) F rfl rfl) rfl (Sx.d_faddr (v := .pointer (some ⟨g2, 0, none⟩)) F rfl rfl (fa_43_0 _ 0 _)) ?_
            rintro xv w' ⟨hx, rfl⟩
            exact ⟨(fun cv hc => hx.trans (Option.some.inj (Option.some.inj hc))), (by show Sx.Own _ _ _ _; rw [show Inv.add L 9 20 = false from f20]; exact H)⟩
          · show Sx.StepAt _ _ _ _ _ _ _ 10
            intro L A w up hun hd F H
            have f11 : L 11 = false := up 11 10 rfl hun
            have f12 : L 12 = false := up 12 11 rfl f11
            have f20 : L 20 = false := up 20 12 rfl f12
            rw [f20] at H
            have F := Sx.Fr.to F (kv' := [(46, .pointer (some ⟨g2, 0, none⟩)), (43, .bool false)]) ⟨rfl, rfl, trivial⟩
            refine Sx.step_ong rfl (Sx.guard_known (d := 43) (b := false) F rfl rfl) rfl (Sx.d_load1 (i := 3) (v := .int .u64 ((Wd.hi db).toNat)) one_22 F H rfl rfl rfl rfl) ?_
            rintro xv w' ⟨hx, rfl⟩
            exact ⟨(fun cv hc => hx.trans (Option.some.inj (Option.some.inj hc))), (by show Sx.Own _ _ _ _; rw [show Inv.add L 10 20 = false from f20]; exact H)⟩
          · show Sx.StepAt _ _ _ _ _ _ _ 11
            intro L A w up hun hd F H
            have f12 : L 12 = false := up 12 11 rfl hun
            have f20 : L 20 = false := up 20 12 rfl f12
            rw [f20] at H
            have F := Sx.Fr.to F (kv' := [(45, .int .u64 ((Wd.hi da).toNat)), (47, .int .u64 ((Wd.hi db).toNat)), (43, .bool false)]) ⟨rfl, rfl, rfl, trivial⟩
            refine Sx.step_ong rfl (Sx.guard_known (d := 43) (b := false) F rfl rfl) rfl (Sx.d_bin (v := .bool true) F rfl rfl rfl (Sx.i_eq (beq_iff_eq.2 (by omega)))) ?_
            rintro xv w' ⟨hx, rfl⟩
            exact ⟨(fun cv hc => hx.trans (Option.some.inj (Option.some.inj hc))), (by show Sx.Own _ _ _ _; rw [show Inv.add L 11 20 = false from f20]; exact H)⟩
          · show Sx.StepAt _ _ _ _ _ _ _ 12
            intro L A w up hun hd F H
            have f20 : L 20 = false := up 20 12 rfl hun
            rw [f20] at H
            have F := Sx.Fr.to F (kv' := [(48, .bool true), (43, .bool false)]) ⟨rfl, rfl, trivial⟩
            refine Sx.step_ong rfl (Sx.guard_known (d := 43) (b := false) F rfl rfl) rfl (Sx.d_move F (Or.inl rfl) rfl) ?_
            rintro xv w' ⟨hx, rfl⟩
            exact ⟨(fun cv hc => hx.trans (Option.some.inj (Option.some.inj hc))), (by show Sx.Own _ _ _ _; rw [show Inv.add L 12 20 = false from f20]; exact H)⟩
          · show Sx.StepAt _ _ _ _ _ _ _ 13
            intro L A w up hun hd F H
            have F := Sx.Fr.to F (kv' := [(2, .pointer (some ⟨g1, 0, none⟩)), (49, .bool true)]) ⟨rfl, rfl, trivial⟩
            refine Sx.step_ong rfl (Sx.guard_known (d := 49) (b := true) F rfl rfl) rfl (Sx.d_faddr (v := .pointer (some ⟨g1, 1, none⟩)) F rfl rfl (fa_43_1 _ 0 _)) ?_
            rintro xv w' ⟨hx, rfl⟩
            exact ⟨(fun cv hc => hx.trans (Option.some.inj (Option.some.inj hc))), H⟩
          · show Sx.StepAt _ _ _ _ _ _ _ 14
            intro L A w up hun hd F H
            have F := Sx.Fr.to F (kv' := [(50, .pointer (some ⟨g1, 1, none⟩)), (49, .bool true)]) ⟨rfl, rfl, trivial⟩
            refine Sx.step_ong rfl (Sx.guard_known (d := 49) (b := true) F rfl rfl) rfl (Sx.d_load1 (i := 4) (v := .int .u64 ((Wd.lo da).toNat)) one_22 F H rfl rfl rfl rfl) ?_
            rintro xv w' ⟨hx, rfl⟩
            exact ⟨(fun cv hc => hx.trans (Option.some.inj (Option.some.inj hc))), H⟩
          · show Sx.StepAt _ _ _ _ _ _ _ 15
            intro L A w up hun hd F H
            have F := Sx.Fr.to F (kv' := [(3, .pointer (some ⟨g2, 0, none⟩)), (49, .bool true)]) ⟨rfl, rfl, trivial⟩
            refine Sx.step_ong rfl (Sx.guard_known (d := 49) (b := true) F rfl rfl) rfl (Sx.d_faddr (v := .pointer (some ⟨g2, 1, none⟩)) F rfl rfl (fa_43_1 _ 0 _)) ?_
            rintro xv w' ⟨hx, rfl⟩
            exact ⟨(fun cv hc => hx.trans (Option.some.inj (Option.some.inj hc))), H⟩
          · show Sx.StepAt _ _ _ _ _ _ _ 16
            intro L A w up hun hd F H
            have F := Sx.Fr.to F (kv' := [(52, .pointer (some ⟨g2, 1, none⟩)), (49, .bool true)]) ⟨rfl, rfl, trivial⟩
            refine Sx.step_ong rfl (Sx.guard_known (d := 49) (b := true) F rfl rfl) rfl (Sx.d_load1 (i := 3) (v := .int .u64 ((Wd.lo db).toNat)) one_22 F H rfl rfl rfl rfl) ?_
            rintro xv w' ⟨hx, rfl⟩
            exact ⟨(fun cv hc => hx.trans (Option.some.inj (Option.some.inj hc))), H⟩
          · show Sx.StepAt _ _ _ _ _ _ _ 17
            intro L A w up hun hd F H
            have F := Sx.Fr.to F (kv' := [(51, .int .u64 ((Wd.lo da).toNat)), (53, .int .u64 ((Wd.lo db).toNat)), (49, .bool true)]) ⟨rfl, rfl, rfl, trivial⟩
            refine Sx.step_ong rfl (Sx.guard_known (d := 49) (b := true) F rfl rfl) rfl (Sx.d_bin (v := .bool false) F rfl rfl rfl (Sx.i_lt (decide_eq_false (by omega)))) ?_
            rintro xv w' ⟨hx, rfl⟩
            exact ⟨(fun cv hc => hx.trans (Option.some.inj (Option.some.inj hc))), H⟩
          · show Sx.StepAt _ _ _ _ _ _ _ 18
            intro L A w up hun hd F H
            have F := Sx.Fr.to F (kv' := [(49, .bool true), (54, .bool false), (43, .bool false)]) ⟨rfl, rfl, rfl, trivial⟩
            refine Sx.step_ong rfl (Sx.guard_known (d := 43) (b := false) F rfl rfl) rfl (Sx.d_pickT (v := .bool false) F rfl rfl rfl) ?_
            rintro xv w' ⟨hx, rfl⟩
            exact ⟨(fun cv hc => hx.trans (Option.some.inj (Option.some.inj hc))), H⟩
          · show Sx.StepAt _ _ _ _ _ _ _ 19
            intro L A w up hun hd F H
            have F := Sx.Fr.to F (kv' := [(43, .bool false), (55, .bool false)]) ⟨rfl, rfl, trivial⟩
            refine Sx.step_on rfl (Sx.d_pickF (v := .bool false) F rfl rfl rfl) ?_
            rintro xv w' ⟨hx, rfl⟩
            exact ⟨(fun cv hc => hx.trans (Option.some.inj (Option.some.inj hc))), H⟩
          · show Sx.StepAt _ _ _ _ _ _ _ 20
            intro L A w up hun hd F H
            have f20 : L 20 = false := hun
            rw [f20] at H
            have F := Sx.Fr.to F (kv' := [(4, .pointer (some ⟨g3, 0, none⟩)), (37, .agg #[.int .u64 ((Wd.hi ((da + (Wd.mk ((4294967295#64 - (Wd.hi db % 4294967296#64)) + 4294967296#64 * (4294967295#64 - (Wd.hi db / 4294967296#64))) ((4294967295#64 - (Wd.lo db % 4294967296#64)) + 4294967296#64 * (4294967295#64 - (Wd.lo db / 4294967296#64))))) + 1#128)).toNat), .int .u64 ((Wd.lo ((da + (Wd.mk ((4294967295#64 - (Wd.hi db % 4294967296#64)) + 4294967296#64 * (4294967295#64 - (Wd.hi db / 4294967296#64))) ((4294967295#64 - (Wd.lo db % 4294967296#64)) + 4294967296#64 * (4294967295#64 - (Wd.lo db / 4294967296#64))))) + 1#128)).toNat)])]) ⟨rfl, rfl, trivial⟩
            refine Sx.step_on rfl (Sx.d_store (i := 2) (xs := [.int .u64 ((Wd.hi ((da + (Wd.mk ((4294967295#64 - (Wd.hi db % 4294967296#64)) + 4294967296#64 * (4294967295#64 - (Wd.hi db / 4294967296#64))) ((4294967295#64 - (Wd.lo db % 4294967296#64)) + 4294967296#64 * (4294967295#64 - (Wd.lo db / 4294967296#64))))) + 1#128)).toNat), .int .u64 ((Wd.lo ((da + (Wd.mk ((4294967295#64 - (Wd.hi db % 4294967296#64)) + 4294967296#64 * (4294967295#64 - (Wd.hi db / 4294967296#64))) ((4294967295#64 - (Wd.lo db % 4294967296#64)) + 4294967296#64 * (4294967295#64 - (Wd.lo db / 4294967296#64))))) + 1#128)).toNat)]) (us := [.int .u64 ((Wd.hi ((da + (Wd.mk ((4294967295#64 - (Wd.hi db % 4294967296#64)) + 4294967296#64 * (4294967295#64 - (Wd.hi db / 4294967296#64))) ((4294967295#64 - (Wd.lo db % 4294967296#64)) + 4294967296#64 * (4294967295#64 - (Wd.lo db / 4294967296#64))))) + 1#128)).toNat), .int .u64 ((Wd.lo ((da + (Wd.mk ((4294967295#64 - (Wd.hi db % 4294967296#64)) + 4294967296#64 * (4294967295#64 - (Wd.hi db / 4294967296#64))) ((4294967295#64 - (Wd.lo db % 4294967296#64)) + 4294967296#64 * (4294967295#64 - (Wd.lo db / 4294967296#64))))) + 1#128)).toNat)]) sz_43 F H rfl rfl rfl rfl rfl rfl rfl (Nat.le_of_ble_eq_true rfl) rfl) ?_
            intro xv w' H
            exact ⟨(fun cv hc => by have h := Option.some.inj hc; cases h), H⟩
          · show Sx.StepAt _ _ _ _ _ _ _ 21
            intro L A w up hun hd F H
            have t20 : L 20 = true := hd 20 rfl
            rw [t20] at H
            have F := Sx.Fr.to F (kv' := [(56, .bool false)]) ⟨rfl, trivial⟩
            refine Sx.step_on rfl (Sx.d_move F (Or.inr rfl) rfl) ?_
            rintro xv w' ⟨hx, rfl⟩
            exact ⟨(fun cv hc => hx.trans (Option.some.inj (Option.some.inj hc))), (by show Sx.Own _ _ _ _; rw [show Inv.add L 21 20 = true from t20]; exact H)⟩
        · intro L A w hL F H
          have t20 : L 20 = true := hL 20 rfl
          rw [t20] at H
          have F := Sx.Fr.to F (kv' := [(0, .agg #[.int .u64 ((Wd.hi da).toNat), .int .u64 ((Wd.lo da).toNat)]), (1, .agg #[.int .u64 ((Wd.hi db).toNat), .int .u64 ((Wd.lo db).toNat)]), (2, .pointer (some ⟨g1, 0, none⟩)), (3, .pointer (some ⟨g2, 0, none⟩)), (4, .pointer (some ⟨g3, 0, none⟩)), (12, .agg #[.int .u64 ((Wd.hi db).toNat), .int .u64 ((Wd.lo db).toNat)]), (13, .agg #[.int .u64 ((Wd.lo db % 4294967296#64).toNat), .int .u64 ((Wd.lo db / 4294967296#64).toNat), .int .u64 ((Wd.hi db % 4294967296#64).toNat), .int .u64 ((Wd.hi db / 4294967296#64).toNat)]), (6, .pointer (some ⟨g4, 0, none⟩)), (7, .int .i64 4), (14, .int .i64 4), (15, .bool false), (18, .int .i64 3), (19, .int .i64 3), (20, .pointer (some ⟨g4, 3, none⟩)), (21, .int .u64 ((Wd.hi db / 4294967296#64).toNat)), (22, .int .u64 ((4294967295#64 - (Wd.hi db / 4294967296#64)).toNat)), (23, .pointer (some ⟨g4, 3, none⟩)), (16, .int .i64 3), (17, .int .i64 4), (8, .pointer (some ⟨g5, 0, none⟩)), (32, .agg #[.int .u64 ((Wd.hi (da + (Wd.mk ((4294967295#64 - (Wd.hi db % 4294967296#64)) + 4294967296#64 * (4294967295#64 - (Wd.hi db / 4294967296#64))) ((4294967295#64 - (Wd.lo db % 4294967296#64)) + 4294967296#64 * (4294967295#64 - (Wd.lo db / 4294967296#64)))))).toNat), .int .u64 ((Wd.lo (da + (Wd.mk ((4294967295#64 - (Wd.hi db % 4294967296#64)) + 4294967296#64 * (4294967295#64 - (Wd.hi db / 4294967296#64))) ((4294967295#64 - (Wd.lo db % 4294967296#64)) + 4294967296#64 * (4294967295#64 - (Wd.lo db / 4294967296#64)))))).toNat)]), (33, .agg #[.int .u64 ((Wd.hi 1#128).toNat), .int .u64 ((Wd.lo 1#128).toNat)]), (34, .tuple #[.agg #[.int .u64 ((Wd.hi ((da + (Wd.mk ((4294967295#64 - (Wd.hi db % 4294967296#64)) + 4294967296#64 * (4294967295#64 - (Wd.hi db / 4294967296#64))) ((4294967295#64 - (Wd.lo db % 4294967296#64)) + 4294967296#64 * (4294967295#64 - (Wd.lo db / 4294967296#64))))) + 1#128)).toNat), .int .u64 ((Wd.lo ((da + (Wd.mk ((4294967295#64 - (Wd.hi db % 4294967296#64)) + 4294967296#64 * (4294967295#64 - (Wd.hi db / 4294967296#64))) ((4294967295#64 - (Wd.lo db % 4294967296#64)) + 4294967296#64 * (4294967295#64 - (Wd.lo db / 4294967296#64))))) + 1#128)).toNat)], .bool (Wd.over (da + (Wd.mk ((4294967295#64 - (Wd.hi db % 4294967296#64)) + 4294967296#64 * (4294967295#64 - (Wd.hi db / 4294967296#64))) ((4294967295#64 - (Wd.lo db % 4294967296#64)) + 4294967296#64 * (4294967295#64 - (Wd.lo db / 4294967296#64))))) 1#128)]), (31, .tuple #[.agg #[.int .u64 ((Wd.hi ((da + (Wd.mk ((4294967295#64 - (Wd.hi db % 4294967296#64)) + 4294967296#64 * (4294967295#64 - (Wd.hi db / 4294967296#64))) ((4294967295#64 - (Wd.lo db % 4294967296#64)) + 4294967296#64 * (4294967295#64 - (Wd.lo db / 4294967296#64))))) + 1#128)).toNat), .int .u64 ((Wd.lo ((da + (Wd.mk ((4294967295#64 - (Wd.hi db % 4294967296#64)) + 4294967296#64 * (4294967295#64 - (Wd.hi db / 4294967296#64))) ((4294967295#64 - (Wd.lo db % 4294967296#64)) + 4294967296#64 * (4294967295#64 - (Wd.lo db / 4294967296#64))))) + 1#128)).toNat)], .bool (Wd.over (da + (Wd.mk ((4294967295#64 - (Wd.hi db % 4294967296#64)) + 4294967296#64 * (4294967295#64 - (Wd.hi db / 4294967296#64))) ((4294967295#64 - (Wd.lo db % 4294967296#64)) + 4294967296#64 * (4294967295#64 - (Wd.lo db / 4294967296#64))))) 1#128)]), (35, .agg #[.int .u64 ((Wd.hi ((da + (Wd.mk ((4294967295#64 - (Wd.hi db % 4294967296#64)) + 4294967296#64 * (4294967295#64 - (Wd.hi db / 4294967296#64))) ((4294967295#64 - (Wd.lo db % 4294967296#64)) + 4294967296#64 * (4294967295#64 - (Wd.lo db / 4294967296#64))))) + 1#128)).toNat), .int .u64 ((Wd.lo ((da + (Wd.mk ((4294967295#64 - (Wd.hi db % 4294967296#64)) + 4294967296#64 * (4294967295#64 - (Wd.hi db / 4294967296#64))) ((4294967295#64 - (Wd.lo db % 4294967296#64)) + 4294967296#64 * (4294967295#64 - (Wd.lo db / 4294967296#64))))) + 1#128)).toNat)]), (36, .bool (Wd.over (da + (Wd.mk ((4294967295#64 - (Wd.hi db % 4294967296#64)) + 4294967296#64 * (4294967295#64 - (Wd.hi db / 4294967296#64))) ((4294967295#64 - (Wd.lo db % 4294967296#64)) + 4294967296#64 * (4294967295#64 - (Wd.lo db / 4294967296#64))))) 1#128)), (10, .pointer (some ⟨g6, 0, none⟩)), (5, .bool false)]) ⟨rfl, rfl, rfl, rfl, rfl, rfl, rfl, rfl, rfl, rfl, rfl, rfl, rfl, rfl, rfl, rfl, rfl, rfl, rfl, rfl, rfl, rfl, rfl, rfl, rfl, rfl, rfl, rfl, trivial⟩
          refine hK23 _ _ ?_
          refine wp_ret ?_
          try dsimp only [Exit.then, Exit.inBlock, Exit.jump]
          refine Sx.ret2 F Try.results24 (Sx.res_row (i := 2) (xs := [.int .u64 ((Wd.hi ((da + (Wd.mk ((4294967295#64 - (Wd.hi db % 4294967296#64)) + 4294967296#64 * (4294967295#64 - (Wd.hi db / 4294967296#64))) ((4294967295#64 - (Wd.lo db % 4294967296#64)) + 4294967296#64 * (4294967295#64 - (Wd.lo db / 4294967296#64))))) + 1#128)).toNat), .int .u64 ((Wd.lo ((da + (Wd.mk ((4294967295#64 - (Wd.hi db % 4294967296#64)) + 4294967296#64 * (4294967295#64 - (Wd.hi db / 4294967296#64))) ((4294967295#64 - (Wd.lo db % 4294967296#64)) + 4294967296#64 * (4294967295#64 - (Wd.lo db / 4294967296#64))))) + 1#128)).toNat)]) rw_43 F H rfl rfl rfl rfl) (Sx.res_tmp (v := .bool false) F rfl) ⟨?_, H.below⟩
          exact congrArg Ending.returned (by rw [R1.sub_dig da db _ (R1.compl db), R1.less_e hl, decide_eq_false hm])
    · skip
      refine Sx.seq (fun K24 hK24 => ?_)
      have F := Sx.Fr.to F (kv' := [(0, .agg #[.int .u64 ((Wd.hi da).toNat), .int .u64 ((Wd.lo da).toNat)]), (1, .agg #[.int .u64 ((Wd.hi db).toNat), .int .u64 ((Wd.lo db).toNat)]), (2, .pointer (some ⟨g1, 0, none⟩)), (3, .pointer (some ⟨g2, 0, none⟩)), (4, .pointer (some ⟨g3, 0, none⟩)), (12, .agg #[.int .u64 ((Wd.hi db).toNat), .int .u64 ((Wd.lo db).toNat)]), (13, .agg #[.int .u64 ((Wd.lo db % 4294967296#64).toNat), .int .u64 ((Wd.lo db / 4294967296#64).toNat), .int .u64 ((Wd.hi db % 4294967296#64).toNat), .int .u64 ((Wd.hi db / 4294967296#64).toNat)]), (6, .pointer (some ⟨g4, 0, none⟩)), (7, .int .i64 4), (14, .int .i64 4), (15, .bool false), (18, .int .i64 3), (19, .int .i64 3), (20, .pointer (some ⟨g4, 3, none⟩)), (21, .int .u64 ((Wd.hi db / 4294967296#64).toNat)), (22, .int .u64 ((4294967295#64 - (Wd.hi db / 4294967296#64)).toNat)), (23, .pointer (some ⟨g4, 3, none⟩)), (16, .int .i64 3), (17, .int .i64 4), (8, .pointer (some ⟨g5, 0, none⟩)), (32, .agg #[.int .u64 ((Wd.hi (da + (Wd.mk ((4294967295#64 - (Wd.hi db % 4294967296#64)) + 4294967296#64 * (4294967295#64 - (Wd.hi db / 4294967296#64))) ((4294967295#64 - (Wd.lo db % 4294967296#64)) + 4294967296#64 * (4294967295#64 - (Wd.lo db / 4294967296#64)))))).toNat), .int .u64 ((Wd.lo (da + (Wd.mk ((4294967295#64 - (Wd.hi db % 4294967296#64)) + 4294967296#64 * (4294967295#64 - (Wd.hi db / 4294967296#64))) ((4294967295#64 - (Wd.lo db % 4294967296#64)) + 4294967296#64 * (4294967295#64 - (Wd.lo db / 4294967296#64)))))).toNat)]), (33, .agg #[.int .u64 ((Wd.hi 1#128).toNat), .int .u64 ((Wd.lo 1#128).toNat)]), (34, .tuple #[.agg #[.int .u64 ((Wd.hi ((da + (Wd.mk ((4294967295#64 - (Wd.hi db % 4294967296#64)) + 4294967296#64 * (4294967295#64 - (Wd.hi db / 4294967296#64))) ((4294967295#64 - (Wd.lo db % 4294967296#64)) + 4294967296#64 * (4294967295#64 - (Wd.lo db / 4294967296#64))))) + 1#128)).toNat), .int .u64 ((Wd.lo ((da + (Wd.mk ((4294967295#64 - (Wd.hi db % 4294967296#64)) + 4294967296#64 * (4294967295#64 - (Wd.hi db / 4294967296#64))) ((4294967295#64 - (Wd.lo db % 4294967296#64)) + 4294967296#64 * (4294967295#64 - (Wd.lo db / 4294967296#64))))) + 1#128)).toNat)], .bool (Wd.over (da + (Wd.mk ((4294967295#64 - (Wd.hi db % 4294967296#64)) + 4294967296#64 * (4294967295#64 - (Wd.hi db / 4294967296#64))) ((4294967295#64 - (Wd.lo db % 4294967296#64)) + 4294967296#64 * (4294967295#64 - (Wd.lo db / 4294967296#64))))) 1#128)]), (31, .tuple #[.agg #[.int .u64 ((Wd.hi ((da + (Wd.mk ((4294967295#64 - (Wd.hi db % 4294967296#64)) + 4294967296#64 * (4294967295#64 - (Wd.hi db / 4294967296#64))) ((4294967295#64 - (Wd.lo db % 4294967296#64)) + 4294967296#64 * (4294967295#64 - (Wd.lo db / 4294967296#64))))) + 1#128)).toNat), .int .u64 ((Wd.lo ((da + (Wd.mk ((4294967295#64 - (Wd.hi db % 4294967296#64)) + 4294967296#64 * (4294967295#64 - (Wd.hi db / 4294967296#64))) ((4294967295#64 - (Wd.lo db % 4294967296#64)) + 4294967296#64 * (4294967295#64 - (Wd.lo db / 4294967296#64))))) + 1#128)).toNat)], .bool (Wd.over (da + (Wd.mk ((4294967295#64 - (Wd.hi db % 4294967296#64)) + 4294967296#64 * (4294967295#64 - (Wd.hi db / 4294967296#64))) ((4294967295#64 - (Wd.lo db % 4294967296#64)) + 4294967296#64 * (4294967295#64 - (Wd.lo db / 4294967296#64))))) 1#128)]), (35, .agg #[.int .u64 ((Wd.hi ((da + (Wd.mk ((4294967295#64 - (Wd.hi db % 4294967296#64)) + 4294967296#64 * (4294967295#64 - (Wd.hi db / 4294967296#64))) ((4294967295#64 - (Wd.lo db % 4294967296#64)) + 4294967296#64 * (4294967295#64 - (Wd.lo db / 4294967296#64))))) + 1#128)).toNat), .int .u64 ((Wd.lo ((da + (Wd.mk ((4294967295#64 - (Wd.hi db % 4294967296#64)) + 4294967296#64 * (4294967295#64 - (Wd.hi db / 4294967296#64))) ((4294967295#64 - (Wd.lo db % 4294967296#64)) + 4294967296#64 * (4294967295#64 - (Wd.lo db / 4294967296#64))))) + 1#128)).toNat)]), (36, .bool (Wd.over (da + (Wd.mk ((4294967295#64 - (Wd.hi db % 4294967296#64)) + 4294967296#64 * (4294967295#64 - (Wd.hi db / 4294967296#64))) ((4294967295#64 - (Wd.lo db % 4294967296#64)) + 4294967296#64 * (4294967295#64 - (Wd.lo db / 4294967296#64))))) 1#128)), (10, .pointer (some ⟨g6, 0, none⟩)), (11, .bool (Wd.over (da + (Wd.mk ((4294967295#64 - (Wd.hi db % 4294967296#64)) + 4294967296#64 * (4294967295#64 - (Wd.hi db / 4294967296#64))) ((4294967295#64 - (Wd.lo db % 4294967296#64)) + 4294967296#64 * (4294967295#64 - (Wd.lo db / 4294967296#64))))) 1#128))]) ⟨rfl, rfl, rfl, rfl, rfl, rfl, rfl, rfl, rfl, rfl, rfl, rfl, rfl, rfl, rfl, rfl, rfl, rfl, rfl, rfl, rfl, rfl, rfl, rfl, rfl, rfl, rfl, rfl, trivial⟩
      refine Sx.drawn F (by kernel_rfl) (by kernel_rfl) (by kernel_rfl) [some (.agg #[.int .u64 ((Wd.hi ((da + (Wd.mk ((4294967295#64 - (Wd.hi db % 4294967296#64)) + 4294967296#64 * (4294967295#64 - (Wd.hi db / 4294967296#64))) ((4294967295#64 - (Wd.lo db % 4294967296#64)) + 4294967296#64 * (4294967295#64 - (Wd.lo db / 4294967296#64))))) + 1#128)).toNat), .int .u64 ((Wd.lo ((da + (Wd.mk ((4294967295#64 - (Wd.hi db % 4294967296#64)) + 4294967296#64 * (4294967295#64 - (Wd.hi db / 4294967296#64))) ((4294967295#64 - (Wd.lo db % 4294967296#64)) + 4294967296#64 * (4294967295#64 - (Wd.lo db / 4294967296#64))))) + 1#128)).toNat)]), some (.pointer (some ⟨g1, 0, none⟩)), some (.int .u64 ((Wd.hi da).toNat)), some (.pointer (some ⟨g2, 0, none⟩)), some (.int .u64 ((Wd.hi db).toNat)), some (.bool false), some (.bool false), some (.pointer (some ⟨g1, 0, none⟩)), some (.int .u64 ((Wd.hi da).toNat)), some (.pointer (some ⟨g2, 0, none⟩)), some (.int .u64 ((Wd.hi db).toNat)), some (.bool false), some (.bool false), some (undef), some (undef), some (undef), some (undef), some (undef), some (.bool false), some (.bool false), none, some (.bool false)] (fun L A w => Sx.Own w0 w [(true, g6, [.int .u64 ((Wd.hi ((da + (Wd.mk ((4294967295#64 - (Wd.hi db % 4294967296#64)) + 4294967296#64 * (4294967295#64 - (Wd.hi db / 4294967296#64))) ((4294967295#64 - (Wd.lo db % 4294967296#64)) + 4294967296#64 * (4294967295#64 - (Wd.lo db / 4294967296#64))))) + 1#128)).toNat), .int .u64 ((Wd.lo ((da + (Wd.mk ((4294967295#64 - (Wd.hi db % 4294967296#64)) + 4294967296#64 * (4294967295#64 - (Wd.hi db / 4294967296#64))) ((4294967295#64 - (Wd.lo db % 4294967296#64)) + 4294967296#64 * (4294967295#64 - (Wd.lo db / 4294967296#64))))) + 1#128)).toNat)]), (true, g4, [.int .u64 ((4294967295#64 - (Wd.lo db % 4294967296#64)).toNat), .int .u64 ((4294967295#64 - (Wd.lo db / 4294967296#64)).toNat), .int .u64 ((4294967295#64 - (Wd.hi db % 4294967296#64)).toNat), .int .u64 ((4294967295#64 - (Wd.hi db / 4294967296#64)).toNat)]), (true, g3, (cond (L 20) [.int .u64 ((Wd.hi ((da + (Wd.mk ((4294967295#64 - (Wd.hi db % 4294967296#64)) + 4294967296#64 * (4294967295#64 - (Wd.hi db / 4294967296#64))) ((4294967295#64 - (Wd.lo db % 4294967296#64)) + 4294967296#64 * (4294967295#64 - (Wd.lo db / 4294967296#64))))) + 1#128)).toNat), .int .u64 ((Wd.lo ((da + (Wd.mk ((4294967295#64 - (Wd.hi db % 4294967296#64)) + 4294967296#64 * (4294967295#64 - (Wd.hi db / 4294967296#64))) ((4294967295#64 - (Wd.lo db % 4294967296#64)) + 4294967296#64 * (4294967295#64 - (Wd.lo db / 4294967296#64))))) + 1#128)).toNat)] [.int .u64 ((Wd.hi 0#128).toNat), .int .u64 ((Wd.lo 0#128).toNat)])), (true, g2, [.int .u64 ((Wd.hi db).toNat), .int .u64 ((Wd.lo db).toNat)]), (true, g1, [.int .u64 ((Wd.hi da).toNat), .int .u64 ((Wd.lo da).toNat)]), (true, g5, [.int .u64 ((Wd.hi (da + (Wd.mk ((4294967295#64 - (Wd.hi db % 4294967296#64)) + 4294967296#64 * (4294967295#64 - (Wd.hi db / 4294967296#64))) ((4294967295#64 - (Wd.lo db % 4294967296#64)) + 4294967296#64 * (4294967295#64 - (Wd.lo db / 4294967296#64)))))).toNat), .int .u64 ((Wd.lo (da + (Wd.mk ((4294967295#64 - (Wd.hi db % 4294967296#64)) + 4294967296#64 * (4294967295#64 - (Wd.hi db / 4294967296#64))) ((4294967295#64 - (Wd.lo db % 4294967296#64)) + 4294967296#64 * (4294967295#64 - (Wd.lo db / 4294967296#64)))))).toNat)])] []) H.drew ?_ ?_
      · refine ⟨?_, ?_, ?_, ?_, ?_, ?_, ?_, ?_, ?_, ?_, ?_, ?_, ?_, ?_, ?_, ?_, ?_, ?_, ?_, ?_, ?_, ?_, trivial⟩
        · show Sx.StepAt _ _ _ _ _ _ _ 0
          intro L A w up hun hd F H
          have f20 : L 20 = false := up 20 0 rfl hun
          rw [f20] at H
          have F := Sx.Fr.to F (kv' := [(10, .pointer (some ⟨g6, 0, none⟩))]) ⟨rfl, trivial⟩
          refine Sx.step_on rfl (Sx.d_load (i := 0) (xs := [.int .u64 ((Wd.hi ((da + (Wd.mk ((4294967295#64 - (Wd.hi db % 4294967296#64)) + 4294967296#64 * (4294967295#64 - (Wd.hi db / 4294967296#64))) ((4294967295#64 - (Wd.lo db % 4294967296#64)) + 4294967296#64 * (4294967295#64 - (Wd.lo db / 4294967296#64))))) + 1#128)).toNat), .int .u64 ((Wd.lo ((da + (Wd.mk ((4294967295#64 - (Wd.hi db % 4294967296#64)) + 4294967296#64 * (4294967295#64 - (Wd.hi db / 4294967296#64))) ((4294967295#64 - (Wd.lo db % 4294967296#64)) + 4294967296#64 * (4294967295#64 - (Wd.lo db / 4294967296#64))))) + 1#128)).toNat)]) rw_43 F H rfl rfl rfl rfl rfl) ?_
          rintro xv w' ⟨hx, rfl⟩
          exact ⟨(fun cv hc => hx.trans (Option.some.inj (Option.some.inj hc))), (by show Sx.Own _ _ _ _; rw [show Inv.add L 0 20 = false from f20]; exact H)⟩
        · show Sx.StepAt _ _ _ _ _ _ _ 1
          intro L A w up hun hd F H
          have f2 : L 2 = false := up 2 1 rfl hun
          have f5 : L 5 = false := up 5 2 rfl f2
          have f6 : L 6 = false := up 6 5 rfl f5
          have f12 : L 12 = false := up 12 6 rfl f6
          have f20 : L 20 = false := up 20 12 rfl f12
          rw [f20] at H
          have F := Sx.Fr.to F (kv' := [(2, .pointer (some ⟨g1, 0, none⟩))]) ⟨rfl, trivial⟩
          refine Sx.step_on rfl (Sx.d_faddr (v := .pointer (some ⟨g1, 0, none⟩)) F rfl rfl (fa_43_0 _ 0 _)) ?_
          rintro xv w' ⟨hx, rfl⟩
          exact ⟨(fun cv hc => hx.trans (Option.some.inj (Option.some.inj hc))), (by show Sx.Own _ _ _ _; rw [show Inv.add L 1 20 = false from f20]; exact H)⟩
        · show Sx.StepAt _ _ _ _ _ _ _ 2
          intro L A w up hun hd F H
          have f5 : L 5 = false := up 5 2 rfl hun
          have f6 : L 6 = false := up 6 5 rfl f5
          have f12 : L 12 = false := up 12 6 rfl f6
          have f20 : L 20 = false := up 20 12 rfl f12
          rw [f20] at H
          have F := Sx.Fr.to F (kv' := [(38, .pointer (some ⟨g1, 0, none⟩))]) ⟨rfl, trivial⟩
          refine Sx.step_on rfl (Sx.d_load1 (i := 4) (v := .int .u64 ((Wd.hi da).toNat)) one_22 F H rfl rfl rfl rfl) ?_
          rintro xv w' ⟨hx, rfl⟩
          exact ⟨(fun cv hc => hx.trans (Option.some.inj (Option.some.inj hc))), (by show Sx.Own _ _ _ _; rw [show Inv.add L 2 20 = false from f20]; exact H)⟩
        · show Sx.StepAt _ _ _ _ _ _ _ 3
          intro L A w up hun hd F H
          have f4 : L 4 = false := up 4 3 rfl hun
          have f5 : L 5 = false := up 5 4 rfl f4
          have f6 : L 6 = false := up 6 5 rfl f5
          have f12 : L 12 = false := up 12 6 rfl f6
          have f20 : L 20 = false := up 20 12 rfl f12
          rw [f20] at H
          have F := Sx.Fr.to F (kv' := [(3, .pointer (some ⟨g2, 0, none⟩))]) ⟨rfl, trivial⟩
          refine Sx.step_on rfl (Sx.d_faddr (v := .pointer (some ⟨g2, 0, none⟩)) F rfl rfl (fa_43_0 _ 0 _)) ?_
          rintro xv w' ⟨hx, rfl⟩
          exact ⟨(fun cv hc => hx.trans (Option.some.inj (Option.some.inj hc))), (by show Sx.Own _ _ _ _; rw [show Inv.add L 3 20 = false from f20]; exact H)⟩
        · show Sx.StepAt _ _ _ _ _ _ _ 4
          intro L A w up hun hd F H
          have f5 : L 5 = false := up 5 4 rfl hun
          have f6 : L 6 = false := up 6 5 rfl f5
          have f12 : L 12 = false := up 12 6 rfl f6
          have f20 : L 20 = false := up 20 12 rfl f12
          rw [f20] at H
          have F := Sx.Fr.to F (kv' := [(40, .pointer (some ⟨g2, 0, none⟩))]) ⟨rfl, trivial⟩
          refine Sx.step_on rfl (Sx.d_load1 (i := 3) (v := .int .u64 ((Wd.hi db).toNat)) one_22 F H rfl rfl rfl rfl) ?_
          rintro xv w' ⟨hx, rfl⟩
          exact ⟨(fun cv hc => hx.trans (Option.some.inj (Option.some.inj hc))), (by show Sx.Own _ _ _ _; rw [show Inv.add L 4 20 = false from f20]; exact H)⟩
        · show Sx.StepAt _ _ _ _ _ _ _ 5
          intro L A w up hun hd F H
          have f6 : L 6 = false := up 6 5 rfl hun
          have f12 : L 12 = false := up 12 6 rfl f6
          have f20 : L 20 = false := up 20 12 rfl f12
          rw [f20] at H
          have F := Sx.Fr.to F (kv' := [(39, .int .u64 ((Wd.hi da).toNat)), (41, .int .u64 ((Wd.hi db).toNat))]) ⟨rfl, rfl, trivial⟩
          refine Sx.step_on rfl (Sx.d_bin (v := .bool false) F rfl rfl rfl (Sx.i_lt (decide_eq_false (by omega)))) ?_
          rintro xv w' ⟨hx, rfl⟩
          exact ⟨(fun cv hc => hx.trans (Option.some.inj (Option.some.inj hc))), (by show Sx.Own _ _ _ _; rw [show Inv.add L 5 20 = false from f20]; exact H)⟩
        · show Sx.StepAt _ _ _ _ _ _ _ 6
          intro L A w up hun hd F H
          have f12 : L 12 = false := up 12 6 rfl hun
          have f20 : L 20 = false := up 20 12 rfl f12
          rw [f20] at H
          have F := Sx.Fr.to F (kv' := [(42, .bool false)]) ⟨rfl, trivial⟩
          refine Sx.step_on rfl (Sx.d_move F (Or.inl rfl) rfl) ?_
          rintro xv w' ⟨hx, rfl⟩
          exact ⟨(fun cv hc => hx.trans (Option.some.inj (Option.some.inj hc))), (by show Sx.Own _ _ _ _; rw [show Inv.add L 6 20 = false from f20]; exact H)⟩
        · show Sx.StepAt _ _ _ _ _ _ _ 7
          intro L A w up hun hd F H
          have f8 : L 8 = false := up 8 7 rfl hun
          have f11 : L 11 = false := up 11 8 rfl f8
          have f12 : L 12 = false := up 12 11 rfl f11
          have f20 : L 20 = false := up 20 12 rfl f12
          rw [f20] at H
          have F := Sx.Fr.to F (kv' := [(2, .pointer (some ⟨g1, 0, none⟩)), (43, .bool false)]) ⟨rfl, rfl, trivial⟩
          refine Sx.step_ong rfl (Sx.guard_known (d := 43) (b := false) F rfl rfl) rfl (Sx.d_faddr (v := .pointer (some ⟨g1, 0, none⟩)) F rfl rfl (fa_43_0 _ 0 _)) ?_
          rintro xv w' ⟨hx, rfl⟩
          exact ⟨(fun cv hc => hx.trans (Option.some.inj (Option.some.inj hc))), (by show Sx.Own _ _ _ _; rw [show Inv.add L 7 20 = false from f20]; exact H)⟩
        · show Sx.StepAt _ _ _ _ _ _ _ 8
          intro L A w up hun hd F H
          have f11 : L 11 = false := up 11 8 rfl hun
          have f12 : L 12 = false := up 12 11 rfl f11
          have f20 : L 20 = false := up 20 12 rfl f12
          rw [f20] at H
          have F := Sx.Fr.to F (kv' := [(44, .pointer (some ⟨g1, 0, none⟩)), (43, .bool false)]) ⟨rfl, rfl, trivial⟩
          refine Sx.step_ong rfl (Sx.guard_known (d := 43) (b := false) F rfl rfl) rfl (Sx.d_load1 (i := 4) (v := .int .u64 ((Wd.hi da).toNat)) one_22 F H rfl rfl rfl rfl) ?_
          rintro xv w' ⟨hx, rfl⟩
          exact ⟨(fun cv hc => hx.trans (Option.some.inj (Option.some.inj hc))), (by show Sx.Own _ _ _ _; rw [show Inv.add L 8 20 = false from f20]; exact H)⟩
        · show Sx.StepAt _ _ _ _ _ _ _ 9
          intro L A w up hun hd F H
          have f10 : L 10 = false := up 10 9 rfl hun
          have f11 : L 11 = false := up 11 10 rfl f10
          have f12 : L 12 = false := up 12 11 rfl f11
          have f20 : L 20 = false := up 20 12 rfl f12
          rw [f20] at H
          have F := Sx.Fr.to F (kv' := [(3, .pointer (some ⟨g2, 0, none⟩)), (43, .bool false)]) ⟨rfl, rfl, trivial⟩
          refine Sx.step_ong rfl (Sx.guard_known (d := 43) (b := false) F rfl rfl) rfl (Sx.d_faddr (v := .pointer (some ⟨g2, 0, none⟩)) F rfl rfl (fa_43_0 _ 0 _)) ?_
          rintro xv w' ⟨hx, rfl⟩
          exact ⟨(fun cv hc => hx.trans (Option.some.inj (Option.some.inj hc))), (by show Sx.Own _ _ _ _; rw [show Inv.add L 9 20 = false from f20]; exact H)⟩
        · show Sx.StepAt _ _ _ _ _ _ _ 10
          intro L A w up hun hd F H
          have f11 : L 11 = false := up 11 10 rfl hun
          have f12 : L 12 = false := up 12 11 rfl f11
          have f20 : L 20 = false := up 20 12 rfl f12
          rw [f20] at H
          have F := Sx.Fr.to F (kv' := [(46, .pointer (some ⟨g2, 0, none⟩)), (43, .bool false)]) ⟨rfl, rfl, trivial⟩
          refine Sx.step_ong rfl (Sx.guard_known (d := 43) (b := false) F rfl rfl) rfl (Sx.d_load1 (i := 3) (v := .int .u64 ((Wd.hi db).toNat)) one_22 F H rfl rfl rfl rfl) ?_
          rintro xv w' ⟨hx, rfl⟩
          exact ⟨(fun cv hc => hx.trans (Option.some.inj (Option.some.inj hc))), (by show Sx.Own _ _ _ _; rw [show Inv.add L 10 20 = false from f20]; exact H)⟩
        · show Sx.StepAt _ _ _ _ _ _ _ 11
          intro L A w up hun hd F H
          have f12 : L 12 = false := up 12 11 rfl hun
          have f20 : L 20 = false := up 20 12 rfl f12
          rw [f20] at H
          have F := Sx.Fr.to F (kv' := [(45, .int .u64 ((Wd.hi da).toNat)), (47, .int .u64 ((Wd.hi db).toNat)), (43, .bool false)]) ⟨rfl, rfl, rfl, trivial⟩
          refine Sx.step_ong rfl (Sx.guard_known (d := 43) (b := false) F rfl rfl) rfl (Sx.d_bin (v := .bool false) F rfl rfl rfl (Sx.i_eq (beq_false_of_ne (by omega)))) ?_
          rintro xv w' ⟨hx, rfl⟩
          exact ⟨(fun cv hc => hx.trans (Option.some.inj (Option.some.inj hc))), (by show Sx.Own _ _ _ _; rw [show Inv.add L 11 20 = false from f20]; exact H)⟩
        · show Sx.StepAt _ _ _ _ _ _ _ 12
          intro L A w up hun hd F H
          have f20 : L 20 = false := up 20 12 rfl hun
          rw [f20] at H
          have F := Sx.Fr.to F (kv' := [(48, .bool false), (43, .bool false)]) ⟨rfl, rfl, trivial⟩
          refine Sx.step_ong rfl (Sx.guard_known (d := 43) (b := false) F rfl rfl) rfl (Sx.d_move F (Or.inl rfl) rfl) ?_
          rintro xv w' ⟨hx, rfl⟩
          exact ⟨(fun cv hc => hx.trans (Option.some.inj (Option.some.inj hc))), (by show Sx.Own _ _ _ _; rw [show Inv.add L 12 20 = false from f20]; exact H)⟩
        · show Sx.StepAt _ _ _ _ _ _ _ 13
          intro L A w up hun hd F H
          have F := Sx.Fr.to F (kv' := [(2, .pointer (some ⟨g1, 0, none⟩)), (49, .bool false)]) ⟨rfl, rfl, trivial⟩
          exact Sx.step_off rfl (Sx.guard_known (d := 49) (b := false) F rfl rfl) rfl ⟨(fun cv hc => Option.some.inj (Option.some.inj hc)), H⟩
        · show Sx.StepAt _ _ _ _ _ _ _ 14
          intro L A w up hun hd F H
          have F := Sx.Fr.to F (kv' := [(50, undef), (49, .bool false)]) ⟨rfl, rfl, trivial⟩
          exact Sx.step_off rfl (Sx.guard_known (d := 49) (b := false) F rfl rfl) rfl ⟨(fun cv hc => Option.some.inj (Option.some.inj hc)), H⟩
        · show Sx.StepAt _ _ _ _ _ _ _ 15
          intro L A w up hun hd F H
          have F := Sx.Fr.to F (kv' := [(3, .pointer (some ⟨g2, 0, none⟩)), (49, .bool false)]) ⟨rfl, rfl, trivial⟩
          exact Sx.step_off rfl (Sx.guard_known (d := 49) (b := false) F rfl rfl) rfl ⟨(fun cv hc => Option.some.inj (Option.some.inj hc)), H⟩
        · show Sx.StepAt _ _ _ _ _ _ _ 16
          intro L A w up hun hd F H
          have F := Sx.Fr.to F (kv' := [(52, undef), (49, .bool false)]) ⟨rfl, rfl, trivial⟩
          exact Sx.step_off rfl (Sx.guard_known (d := 49) (b := false) F rfl rfl) rfl ⟨(fun cv hc => Option.some.inj (Option.some.inj hc)), H⟩
        · show Sx.StepAt _ _ _ _ _ _ _ 17
          intro L A w up hun hd F H
          have F := Sx.Fr.to F (kv' := [(51, undef), (53, undef), (49, .bool false)]) ⟨rfl, rfl, rfl, trivial⟩
          exact Sx.step_off rfl (Sx.guard_known (d := 49) (b := false) F rfl rfl) rfl ⟨(fun cv hc => Option.some.inj (Option.some.inj hc)), H⟩
        · show Sx.StepAt _ _ _ _ _ _ _ 18
          intro L A w up hun hd F H
          have F := Sx.Fr.to F (kv' := [(49, .bool false), (54, undef), (43, .bool false)]) ⟨rfl, rfl, rfl, trivial⟩
          refine Sx.step_ong rfl (Sx.guard_known (d := 43) (b := false) F rfl rfl) rfl (Sx.d_pickF (v := .bool false) F rfl rfl rfl) ?_
          rintro xv w' ⟨hx, rfl⟩
          exact ⟨(fun cv hc => hx.trans (Option.some.inj (Option.some.inj hc))), H⟩
        · show Sx.StepAt _ _ _ _ _ _ _ 19
          intro L A w up hun hd F H
          have F := Sx.Fr.to F (kv' := [(43, .bool false), (55, .bool false)]) ⟨rfl, rfl, trivial⟩
          refine Sx.step_on rfl (Sx.d_pickF (v := .bool false) F rfl rfl rfl) ?_
          rintro xv w' ⟨hx, rfl⟩
          exact ⟨(fun cv hc => hx.trans (Option.some.inj (Option.some.inj hc))), H⟩
        · show Sx.StepAt _ _ _ _ _ _ _ 20
          intro L A w up hun hd F H
          have f20 : L 20 = false := hun
          rw [f20] at H
          have F := Sx.Fr.to F (kv' := [(4, .pointer (some ⟨g3, 0, none⟩)), (37, .agg #[.int .u64 ((Wd.hi ((da + (Wd.mk ((4294967295#64 - (Wd.hi db % 4294967296#64)) + 4294967296#64 * (4294967295#64 - (Wd.hi db / 4294967296#64))) ((4294967295#64 - (Wd.lo db % 4294967296#64)) + 4294967296#64 * (4294967295#64 - (Wd.lo db / 4294967296#64))))) + 1#128)).toNat), .int .u64 ((Wd.lo ((da + (Wd.mk ((4294967295#64 - (Wd.hi db % 4294967296#64)) + 4294967296#64 * (4294967295#64 - (Wd.hi db / 4294967296#64))) ((4294967295#64 - (Wd.lo db % 4294967296#64)) + 4294967296#64 * (4294967295#64 - (Wd.lo db / 4294967296#64))))) + 1#128)).toNat)])]) ⟨rfl, rfl, trivial⟩
          refine Sx.step_on rfl (Sx.d_store (i := 2) (xs := [.int .u64 ((Wd.hi ((da + (Wd.mk ((4294967295#64 - (Wd.hi db % 4294967296#64)) + 4294967296#64 * (4294967295#64 - (Wd.hi db / 4294967296#64))) ((4294967295#64 - (Wd.lo db % 4294967296#64)) + 4294967296#64 * (4294967295#64 - (Wd.lo db / 4294967296#64))))) + 1#128)).toNat), .int .u64 ((Wd.lo ((da + (Wd.mk ((4294967295#64 - (Wd.hi db % 4294967296#64)) + 4294967296#64 * (4294967295#64 - (Wd.hi db / 4294967296#64))) ((4294967295#64 - (Wd.lo db % 4294967296#64)) + 4294967296#64 * (4294967295#64 - (Wd.lo db / 4294967296#64))))) + 1#128)).toNat)]) (us := [.int .u64 ((Wd.hi ((da + (Wd.mk ((4294967295#64 - (Wd.hi db % 4294967296#64)) + 4294967296#64 * (4294967295#64 - (Wd.hi db / 4294967296#64))) ((4294967295#64 - (Wd.lo db % 4294967296#64)) + 4294967296#64 * (4294967295#64 - (Wd.lo db / 4294967296#64))))) + 1#128)).toNat), .int .u64 ((Wd.lo ((da + (Wd.mk ((4294967295#64 - (Wd.hi db % 4294967296#64)) + 4294967296#64 * (4294967295#64 - (Wd.hi db / 4294967296#64))) ((4294967295#64 - (Wd.lo db % 4294967296#64)) + 4294967296#64 * (4294967295#64 - (Wd.lo db / 4294967296#64))))) + 1#128)).toNat)]) sz_43 F H rfl rfl rfl rfl rfl rfl rfl (Nat.le_of_ble_eq_true rfl) rfl) ?_
          intro xv w' H
          exact ⟨(fun cv hc => by have h := Option.some.inj hc; cases h), H⟩
        · show Sx.StepAt _ _ _ _ _ _ _ 21
          intro L A w up hun hd F H
          have t20 : L 20 = true := hd 20 rfl
          rw [t20] at H
          have F := Sx.Fr.to F (kv' := [(56, .bool false)]) ⟨rfl, trivial⟩
          refine Sx.step_on rfl (Sx.d_move F (Or.inr rfl) rfl) ?_
          rintro xv w' ⟨hx, rfl⟩
          exact ⟨(fun cv hc => hx.trans (Option.some.inj (Option.some.inj hc))), (by show Sx.Own _ _ _ _; rw [show Inv.add L 21 20 = true from t20]; exact H)⟩
      · intro L A w hL F H
        have t20 : L 20 = true := hL 20 rfl
        rw [t20] at H
        have F := Sx.Fr.to F (kv' := [(0, .agg #[.int .u64 ((Wd.hi da).toNat), .int .u64 ((Wd.lo da).toNat)]), (1, .agg #[.int .u64 ((Wd.hi db).toNat), .int .u64 ((Wd.lo db).toNat)]), (2, .pointer (some ⟨g1, 0, none⟩)), (3, .pointer (some ⟨g2, 0, none⟩)), (4, .pointer (some ⟨g3, 0, none⟩)), (12, .agg #[.int .u64 ((Wd.hi db).toNat), .int .u64 ((Wd.lo db).toNat)]), (13, .agg #[.int .u64 ((Wd.lo db % 4294967296#64).toNat), .int .u64 ((Wd.lo db / 4294967296#64).toNat), .int .u64 ((Wd.hi db % 4294967296#64).toNat), .int .u64 ((Wd.hi db / 4294967296#64).toNat)]), (6, .pointer (some ⟨g4, 0, none⟩)), (7, .int .i64 4), (14, .int .i64 4), (15, .bool false), (18, .int .i64 3), (19, .int .i64 3), (20, .pointer (some ⟨g4, 3, none⟩)), (21, .int .u64 ((Wd.hi db / 4294967296#64).toNat)), (22, .int .u64 ((4294967295#64 - (Wd.hi db / 4294967296#64)).toNat)), (23, .pointer (some ⟨g4, 3, none⟩)), (16, .int .i64 3), (17, .int .i64 4), (8, .pointer (some ⟨g5, 0, none⟩)), (32, .agg #[.int .u64 ((Wd.hi (da + (Wd.mk ((4294967295#64 - (Wd.hi db % 4294967296#64)) + 4294967296#64 * (4294967295#64 - (Wd.hi db / 4294967296#64))) ((4294967295#64 - (Wd.lo db % 4294967296#64)) + 4294967296#64 * (4294967295#64 - (Wd.lo db / 4294967296#64)))))).toNat), .int .u64 ((Wd.lo (da + (Wd.mk ((4294967295#64 - (Wd.hi db % 4294967296#64)) + 4294967296#64 * (4294967295#64 - (Wd.hi db / 4294967296#64))) ((4294967295#64 - (Wd.lo db % 4294967296#64)) + 4294967296#64 * (4294967295#64 - (Wd.lo db / 4294967296#64)))))).toNat)]), (33, .agg #[.int .u64 ((Wd.hi 1#128).toNat), .int .u64 ((Wd.lo 1#128).toNat)]), (34, .tuple #[.agg #[.int .u64 ((Wd.hi ((da + (Wd.mk ((4294967295#64 - (Wd.hi db % 4294967296#64)) + 4294967296#64 * (4294967295#64 - (Wd.hi db / 4294967296#64))) ((4294967295#64 - (Wd.lo db % 4294967296#64)) + 4294967296#64 * (4294967295#64 - (Wd.lo db / 4294967296#64))))) + 1#128)).toNat), .int .u64 ((Wd.lo ((da + (Wd.mk ((4294967295#64 - (Wd.hi db % 4294967296#64)) + 4294967296#64 * (4294967295#64 - (Wd.hi db / 4294967296#64))) ((4294967295#64 - (Wd.lo db % 4294967296#64)) + 4294967296#64 * (4294967295#64 - (Wd.lo db / 4294967296#64))))) + 1#128)).toNat)], .bool (Wd.over (da + (Wd.mk ((4294967295#64 - (Wd.hi db % 4294967296#64)) + 4294967296#64 * (4294967295#64 - (Wd.hi db / 4294967296#64))) ((4294967295#64 - (Wd.lo db % 4294967296#64)) + 4294967296#64 * (4294967295#64 - (Wd.lo db / 4294967296#64))))) 1#128)]), (31, .tuple #[.agg #[.int .u64 ((Wd.hi ((da + (Wd.mk ((4294967295#64 - (Wd.hi db % 4294967296#64)) + 4294967296#64 * (4294967295#64 - (Wd.hi db / 4294967296#64))) ((4294967295#64 - (Wd.lo db % 4294967296#64)) + 4294967296#64 * (4294967295#64 - (Wd.lo db / 4294967296#64))))) + 1#128)).toNat), .int .u64 ((Wd.lo ((da + (Wd.mk ((4294967295#64 - (Wd.hi db % 4294967296#64)) + 4294967296#64 * (4294967295#64 - (Wd.hi db / 4294967296#64))) ((4294967295#64 - (Wd.lo db % 4294967296#64)) + 4294967296#64 * (4294967295#64 - (Wd.lo db / 4294967296#64))))) + 1#128)).toNat)], .bool (Wd.over (da + (Wd.mk ((4294967295#64 - (Wd.hi db % 4294967296#64)) + 4294967296#64 * (4294967295#64 - (Wd.hi db / 4294967296#64))) ((4294967295#64 - (Wd.lo db % 4294967296#64)) + 4294967296#64 * (4294967295#64 - (Wd.lo db / 4294967296#64))))) 1#128)]), (35, .agg #[.int .u64 ((Wd.hi ((da + (Wd.mk ((4294967295#64 - (Wd.hi db % 4294967296#64)) + 4294967296#64 * (4294967295#64 - (Wd.hi db / 4294967296#64))) ((4294967295#64 - (Wd.lo db % 4294967296#64)) + 4294967296#64 * (4294967295#64 - (Wd.lo db / 4294967296#64))))) + 1#128)).toNat), .int .u64 ((Wd.lo ((da + (Wd.mk ((4294967295#64 - (Wd.hi db % 4294967296#64)) + 4294967296#64 * (4294967295#64 - (Wd.hi db / 4294967296#64))) ((4294967295#64 - (Wd.lo db % 4294967296#64)) + 4294967296#64 * (4294967295#64 - (Wd.lo db / 4294967296#64))))) + 1#128)).toNat)]), (36, .bool (Wd.over (da + (Wd.mk ((4294967295#64 - (Wd.hi db % 4294967296#64)) + 4294967296#64 * (4294967295#64 - (Wd.hi db / 4294967296#64))) ((4294967295#64 - (Wd.lo db % 4294967296#64)) + 4294967296#64 * (4294967295#64 - (Wd.lo db / 4294967296#64))))) 1#128)), (10, .pointer (some ⟨g6, 0, none⟩)), (5, .bool false)]) ⟨rfl, rfl, rfl, rfl, rfl, rfl, rfl, rfl, rfl, rfl, rfl, rfl, rfl, rfl, rfl, rfl, rfl, rfl, rfl, rfl, rfl, rfl, rfl, rfl, rfl, rfl, rfl, rfl, trivial⟩
        refine hK24 _ _ ?_
        refine wp_ret ?_
        try dsimp only [Exit.then, Exit.inBlock, Exit.jump]
        refine Sx.ret2 F Try.results24 (Sx.res_row (i := 2) (xs := [.int .u64 ((Wd.hi ((da + (Wd.mk ((4294967295#64 - (Wd.hi db % 4294967296#64)) + 4294967296#64 * (4294967295#64 - (Wd.hi db / 4294967296#64))) ((4294967295#64 - (Wd.lo db % 4294967296#64)) + 4294967296#64 * (4294967295#64 - (Wd.lo db / 4294967296#64))))) + 1#128)).toNat), .int .u64 ((Wd.lo ((da + (Wd.mk ((4294967295#64 - (Wd.hi db % 4294967296#64)) + 4294967296#64 * (4294967295#64 - (Wd.hi db / 4294967296#64))) ((4294967295#64 - (Wd.lo db % 4294967296#64)) + 4294967296#64 * (4294967295#64 - (Wd.lo db / 4294967296#64))))) + 1#128)).toNat)]) rw_43 F H rfl rfl rfl rfl) (Sx.res_tmp (v := .bool false) F rfl) ⟨?_, H.below⟩
        exact congrArg Ending.returned (by rw [R1.sub_dig da db _ (R1.compl db), R1.less_g hl])
end Go.Proofs.Ytpbdffmgendboab
