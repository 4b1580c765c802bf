/- AffineTells walked. -/
import Derived.Test.YtpbdffmgendboaaOd
import Derived.Test.YtpbdffmgendboaaAfE
namespace Go.Proofs.Ytpbdffmgendboaa
open Go Go.RowKit
theorem Af.back0 (pa pc : BitVec 128) : Af.inv pa * pc + Af.inv pa * (0#128 - pc) = 0#128 := by
  rw [← BitVec.mul_add, BitVec.zero_sub, ← BitVec.sub_eq_add_neg, BitVec.sub_self, BitVec.mul_zero]
set_option maxRecDepth 100000 in
theorem affineTells_ok (pa pc qa qc x : BitVec 128) (hm : Af.odd pa = true) (w0 : World) : Calls Try.prog 3 #[.agg #[.int .u64 ((Wd.hi pa).toNat), .int .u64 ((Wd.lo pa).toNat), .int .u64 ((Wd.hi pc).toNat), .int .u64 ((Wd.lo pc).toNat)], .agg #[.int .u64 ((Wd.hi qa).toNat), .int .u64 ((Wd.lo qa).toNat), .int .u64 ((Wd.hi qc).toNat), .int .u64 ((Wd.lo qc).toNat)], .agg #[.int .u64 ((Wd.hi x).toNat), .int .u64 ((Wd.lo x).toNat)]] w0 fun e w' => e = .returned (.bool true) ∧ Below w0.heap.size w0 w' := by
  refine Sx.enter (args := [.agg #[.int .u64 ((Wd.hi pa).toNat), .int .u64 ((Wd.lo pa).toNat), .int .u64 ((Wd.hi pc).toNat), .int .u64 ((Wd.lo pc).toNat)], .agg #[.int .u64 ((Wd.hi qa).toNat), .int .u64 ((Wd.lo qa).toNat), .int .u64 ((Wd.hi qc).toNat), .int .u64 ((Wd.lo qc).toNat)], .agg #[.int .u64 ((Wd.hi x).toNat), .int .u64 ((Wd.lo x).toNat)]]) Try.func3 rfl Try.ntmps3 (Nat.le_of_ble_eq_true rfl) (fun A F => ?_)
  have H := Sx.Own.start w0
  refine Sx.seq (fun K1 hK1 => ?_)
  refine Sx.plain ?_
  refine Sx.sb F (Sx.d_box F H rfl rfl [.int .u64 ((Wd.hi pa).toNat), .int .u64 ((Wd.lo pa).toNat), .int .u64 ((Wd.hi pc).toNat), .int .u64 ((Wd.lo pc).toNat)] rfl) (Sx.wanted_none rfl _) rfl (by decide) (fun g1 A w F H => ?_)
  refine Sx.sb F (Sx.d_box F H rfl rfl [.int .u64 ((Wd.hi qa).toNat), .int .u64 ((Wd.lo qa).toNat), .int .u64 ((Wd.hi qc).toNat), .int .u64 ((Wd.lo qc).toNat)] rfl) (Sx.wanted_none rfl _) rfl (by decide) (fun g2 A w F H => ?_)
  refine Sx.sb F (Sx.d_box F H rfl rfl [.int .u64 ((Wd.hi x).toNat), .int .u64 ((Wd.lo x).toNat)] rfl) (Sx.wanted_none rfl _) rfl (by decide) (fun g3 A w F H => ?_)
  refine Sx.sv F (Sx.d_move F (Or.inr rfl) rfl) (Sx.wanted_none rfl _) rfl (by decide) (fun A F => ?_)
  refine Sx.nil ?_
  refine hK1 _ _ ?_
  refine Sx.seq (fun K2 hK2 => ?_)
  refine Sx.seq (fun K3 hK3 => ?_)
  refine Sx.plain ?_
  refine Sx.sw F (Sx.d_call (vs := []) (v := .bool true) if_15 F H rfl rfl (awake09_c _)) (Sx.wanted_none rfl _) rfl (by decide) (fun A w F H => ?_)
  refine Sx.sv F (Sx.d_un (v := .bool false) F rfl rfl rfl) (Sx.wanted_none rfl _) rfl (by decide) (fun A F => ?_)
  refine Sx.nil ?_
  refine hK3 _ _ ?_
  refine Sx.condF F rfl ?_
  refine wp_skip ?_
  refine hK2 _ _ ?_
  refine Sx.seq (fun K4 hK4 => ?_)
  refine Sx.plain ?_
  refine Sx.sv F (Sx.d_load (i := 0) (xs := [.int .u64 ((Wd.hi x).toNat), .int .u64 ((Wd.lo x).toNat)]) rw_24 F H rfl rfl rfl rfl rfl) (Sx.wanted_none rfl _) rfl (by decide) (fun A F => ?_)
  refine Sx.sw F (Sx.d_call (vs := [.agg #[.int .u64 ((Wd.hi x).toNat), .int .u64 ((Wd.lo x).toNat)]]) (v := .tuple #[.agg #[.int .u64 ((Wd.hi (Af.oddv x)).toNat), .int .u64 ((Wd.lo (Af.oddv x)).toNat)], .int .i64 (Af.odde x)]) if_16 F H rfl rfl (aoddT_c x _)) (Sx.wanted_none rfl _) rfl (by decide) (fun A w F H => ?_)
  refine Sx.sv F (Sx.d_move F (Or.inl rfl) rfl) (Sx.wanted_none rfl _) rfl (by decide) (fun A F => ?_)
  refine Sx.sv F (Sx.d_extract (v := .agg #[.int .u64 ((Wd.hi (Af.oddv x)).toNat), .int .u64 ((Wd.lo (Af.oddv x)).toNat)]) F rfl rfl rfl) (Sx.wanted_none rfl _) rfl (by decide) (fun A F => ?_)
  refine Sx.sv F (Sx.d_extract (v := .int .i64 (Af.odde x)) F rfl rfl rfl) (Sx.wanted_none rfl _) rfl (by decide) (fun A F => ?_)
  refine Sx.sb F (Sx.d_alloc H rfl [.int .u64 ((Wd.hi 0#128).toNat), .int .u64 ((Wd.lo 0#128).toNat)] zero_24) (Sx.wanted_none rfl _) rfl (by decide) (fun g4 A w F H => ?_)
  refine Sx.ss F (Sx.d_store (i := 0) (xs := [.int .u64 ((Wd.hi (Af.oddv x)).toNat), .int .u64 ((Wd.lo (Af.oddv x)).toNat)]) (us := [.int .u64 ((Wd.hi (Af.oddv x)).toNat), .int .u64 ((Wd.lo (Af.oddv x)).toNat)]) sz_24 F H rfl rfl rfl rfl rfl rfl rfl (Nat.le_of_ble_eq_true rfl) rfl) (Sx.wanted_none rfl _) rfl (fun A w F (H : Sx.Own w0 _ [(true, g4, [.int .u64 ((Wd.hi (Af.oddv x)).toNat), .int .u64 ((Wd.lo (Af.oddv x)).toNat)]), (true, g3, [.int .u64 ((Wd.hi x).toNat), .int .u64 ((Wd.lo x).toNat)]), (true, g2, [.int .u64 ((Wd.hi qa).toNat), .int .u64 ((Wd.lo qa).toNat), .int .u64 ((Wd.hi qc).toNat), .int .u64 ((Wd.lo qc).toNat)]), (true, g1, [.int .u64 ((Wd.hi pa).toNat), .int .u64 ((Wd.lo pa).toNat), .int .u64 ((Wd.hi pc).toNat), .int .u64 ((Wd.lo pc).toNat)])] []) => ?_)
  refine Sx.sv F (Sx.d_move F (Or.inr rfl) rfl) (Sx.wanted_none rfl _) rfl (by decide) (fun A F => ?_)
  refine Sx.nil ?_
  refine hK4 _ _ ?_
  refine Sx.seq (fun K5 hK5 => ?_)
  refine Sx.plain ?_
  refine Sx.sv F (Sx.d_load (i := 1) (xs := [.int .u64 ((Wd.hi x).toNat), .int .u64 ((Wd.lo x).toNat)]) rw_24 F H rfl rfl rfl rfl rfl) (Sx.wanted_none rfl _) rfl (by decide) (fun A F => ?_)
  refine Sx.sw F (Sx.d_call (vs := [.agg #[.int .u64 ((Wd.hi x).toNat), .int .u64 ((Wd.lo x).toNat)]]) (v := .tuple #[.agg #[.int .u64 ((Wd.hi (Af.oddv x)).toNat), .int .u64 ((Wd.lo (Af.oddv x)).toNat)], .int .i64 (Af.odde x)]) if_17 F H rfl rfl (rodd9T_c x _)) (Sx.wanted_none rfl _) rfl (by decide) (fun A w F H => ?_)
  refine Sx.sv F (Sx.d_move F (Or.inl rfl) rfl) (Sx.wanted_none rfl _) rfl (by decide) (fun A F => ?_)
  refine Sx.sv F (Sx.d_extract (v := .agg #[.int .u64 ((Wd.hi (Af.oddv x)).toNat), .int .u64 ((Wd.lo (Af.oddv x)).toNat)]) F rfl rfl rfl) (Sx.wanted_none rfl _) rfl (by decide) (fun A F => ?_)
  refine Sx.sv F (Sx.d_extract (v := .int .i64 (Af.odde x)) F rfl rfl rfl) (Sx.wanted_none rfl _) rfl (by decide) (fun A F => ?_)
  refine Sx.sb F (Sx.d_alloc H rfl [.int .u64 ((Wd.hi 0#128).toNat), .int .u64 ((Wd.lo 0#128).toNat)] zero_31) (Sx.wanted_none rfl _) rfl (by decide) (fun g5 A w F H => ?_)
  refine Sx.ss F (Sx.d_store (i := 0) (xs := [.int .u64 ((Wd.hi (Af.oddv x)).toNat), .int .u64 ((Wd.lo (Af.oddv x)).toNat)]) (us := [.int .u64 ((Wd.hi (Af.oddv x)).toNat), .int .u64 ((Wd.lo (Af.oddv x)).toNat)]) sz_31 F H rfl rfl rfl rfl rfl rfl rfl (Nat.le_of_ble_eq_true rfl) rfl) (Sx.wanted_none rfl _) rfl (fun A w F (H : Sx.Own w0 _ [(true, g5, [.int .u64 ((Wd.hi (Af.oddv x)).toNat), .int .u64 ((Wd.lo (Af.oddv x)).toNat)]), (true, g4, [.int .u64 ((Wd.hi (Af.oddv x)).toNat), .int .u64 ((Wd.lo (Af.oddv x)).toNat)]), (true, g3, [.int .u64 ((Wd.hi x).toNat), .int .u64 ((Wd.lo x).toNat)]), (true, g2, [.int .u64 ((Wd.hi qa).toNat), .int .u64 ((Wd.lo qa).toNat), .int .u64 ((Wd.hi qc).toNat), .int .u64 ((Wd.lo qc).toNat)]), (true, g1, [.int .u64 ((Wd.hi pa).toNat), .int .u64 ((Wd.lo pa).toNat), .int .u64 ((Wd.hi pc).toNat), .int .u64 ((Wd.lo pc).toNat)])] []) => ?_)
  refine Sx.sv F (Sx.d_move F (Or.inr rfl) rfl) (Sx.wanted_none rfl _) rfl (by decide) (fun A F => ?_)
  refine Sx.nil ?_
  refine hK5 _ _ ?_
  refine Sx.seq (fun K6 hK6 => ?_)
  refine Sx.plain ?_
  refine Sx.sv F (Sx.d_load (i := 4) (xs := [.int .u64 ((Wd.hi pa).toNat), .int .u64 ((Wd.lo pa).toNat), .int .u64 ((Wd.hi pc).toNat), .int .u64 ((Wd.lo pc).toNat)]) rw_26 F H rfl rfl rfl rfl rfl) (Sx.wanted_none rfl _) rfl (by decide) (fun A F => ?_)
  refine Sx.sw F (Sx.d_call (vs := [.agg #[.int .u64 ((Wd.hi pa).toNat), .int .u64 ((Wd.lo pa).toNat), .int .u64 ((Wd.hi pc).toNat), .int .u64 ((Wd.lo pc).toNat)]]) (v := .tuple #[.agg #[.int .u64 ((Wd.hi (Af.inv pa)).toNat), .int .u64 ((Wd.lo (Af.inv pa)).toNat), .int .u64 ((Wd.hi (Af.inv pa * (0#128 - pc))).toNat), .int .u64 ((Wd.lo (Af.inv pa * (0#128 - pc))).toNat)], .int .i64 0]) if_18 F H rfl rfl (ainv_ok pa pc hm _)) (Sx.wanted_none rfl _) rfl (by decide) (fun A w F H => ?_)
  refine Sx.sv F (Sx.d_move F (Or.inl rfl) rfl) (Sx.wanted_none rfl _) rfl (by decide) (fun A F => ?_)
  refine Sx.sv F (Sx.d_extract (v := .agg #[.int .u64 ((Wd.hi (Af.inv pa)).toNat), .int .u64 ((Wd.lo (Af.inv pa)).toNat), .int .u64 ((Wd.hi (Af.inv pa * (0#128 - pc))).toNat), .int .u64 ((Wd.lo (Af.inv pa * (0#128 - pc))).toNat)]) F rfl rfl rfl) (Sx.wanted_none rfl _) rfl (by decide) (fun A F => ?_)
  refine Sx.sv F (Sx.d_extract (v := .int .i64 0) F rfl rfl rfl) (Sx.wanted_none rfl _) rfl (by decide) (fun A F => ?_)
  refine Sx.sb F (Sx.d_alloc H rfl [.int .u64 ((Wd.hi 0#128).toNat), .int .u64 ((Wd.lo 0#128).toNat), .int .u64 ((Wd.hi 0#128).toNat), .int .u64 ((Wd.lo 0#128).toNat)] zero_26) (Sx.wanted_none rfl _) rfl (by decide) (fun g6 A w F H => ?_)
  refine Sx.ss F (Sx.d_store (i := 0) (xs := [.int .u64 ((Wd.hi (Af.inv pa)).toNat), .int .u64 ((Wd.lo (Af.inv pa)).toNat), .int .u64 ((Wd.hi (Af.inv pa * (0#128 - pc))).toNat), .int .u64 ((Wd.lo (Af.inv pa * (0#128 - pc))).toNat)]) (us := [.int .u64 ((Wd.hi (Af.inv pa)).toNat), .int .u64 ((Wd.lo (Af.inv pa)).toNat), .int .u64 ((Wd.hi (Af.inv pa * (0#128 - pc))).toNat), .int .u64 ((Wd.lo (Af.inv pa * (0#128 - pc))).toNat)]) sz_26 F H rfl rfl rfl rfl rfl rfl rfl (Nat.le_of_ble_eq_true rfl) rfl) (Sx.wanted_none rfl _) rfl (fun A w F (H : Sx.Own w0 _ [(true, g6, [.int .u64 ((Wd.hi (Af.inv pa)).toNat), .int .u64 ((Wd.lo (Af.inv pa)).toNat), .int .u64 ((Wd.hi (Af.inv pa * (0#128 - pc))).toNat), .int .u64 ((Wd.lo (Af.inv pa * (0#128 - pc))).toNat)]), (true, g5, [.int .u64 ((Wd.hi (Af.oddv x)).toNat), .int .u64 ((Wd.lo (Af.oddv x)).toNat)]), (true, g4, [.int .u64 ((Wd.hi (Af.oddv x)).toNat), .int .u64 ((Wd.lo (Af.oddv x)).toNat)]), (true, g3, [.int .u64 ((Wd.hi x).toNat), .int .u64 ((Wd.lo x).toNat)]), (true, g2, [.int .u64 ((Wd.hi qa).toNat), .int .u64 ((Wd.lo qa).toNat), .int .u64 ((Wd.hi qc).toNat), .int .u64 ((Wd.lo qc).toNat)]), (true, g1, [.int .u64 ((Wd.hi pa).toNat), .int .u64 ((Wd.lo pa).toNat), .int .u64 ((Wd.hi pc).toNat), .int .u64 ((Wd.lo pc).toNat)])] []) => ?_)
  refine Sx.sv F (Sx.d_move F (Or.inr rfl) rfl) (Sx.wanted_none rfl _) rfl (by decide) (fun A F => ?_)
  refine Sx.nil ?_
  refine hK6 _ _ ?_
  refine Sx.seq (fun K7 hK7 => ?_)
  refine Sx.plain ?_
  refine Sx.sv F (Sx.d_faddr (v := .pointer (some ⟨g1, 0, none⟩)) F rfl rfl (fa_26_0 _ 0 _)) (Sx.wanted_none rfl _) rfl (by decide) (fun A F => ?_)
  refine Sx.sv F (Sx.d_load (i := 5) (xs := [.int .u64 ((Wd.hi pa).toNat), .int .u64 ((Wd.lo pa).toNat)]) rw_24 F H rfl rfl rfl rfl rfl) (Sx.wanted_none rfl _) rfl (by decide) (fun A F => ?_)
  refine Sx.sw F (Sx.d_call (vs := [.agg #[.int .u64 ((Wd.hi pa).toNat), .int .u64 ((Wd.lo pa).toNat)]]) (v := .tuple #[.agg #[.int .u64 ((Wd.hi (Af.inv pa)).toNat), .int .u64 ((Wd.lo (Af.inv pa)).toNat)], .int .i64 0]) if_17 F H rfl rfl (rodd9_ok pa hm _)) (Sx.wanted_none rfl _) rfl (by decide) (fun A w F H => ?_)
  refine Sx.sv F (Sx.d_move F (Or.inl rfl) rfl) (Sx.wanted_none rfl _) rfl (by decide) (fun A F => ?_)
  refine Sx.sv F (Sx.d_extract (v := .agg #[.int .u64 ((Wd.hi (Af.inv pa)).toNat), .int .u64 ((Wd.lo (Af.inv pa)).toNat)]) F rfl rfl rfl) (Sx.wanted_none rfl _) rfl (by decide) (fun A F => ?_)
  refine Sx.sv F (Sx.d_extract (v := .int .i64 0) F rfl rfl rfl) (Sx.wanted_none rfl _) rfl (by decide) (fun A F => ?_)
  refine Sx.sb F (Sx.d_alloc H rfl [.int .u64 ((Wd.hi 0#128).toNat), .int .u64 ((Wd.lo 0#128).toNat)] zero_31) (Sx.wanted_none rfl _) rfl (by decide) (fun g7 A w F H => ?_)
  refine Sx.ss F (Sx.d_store (i := 0) (xs := [.int .u64 ((Wd.hi (Af.inv pa)).toNat), .int .u64 ((Wd.lo (Af.inv pa)).toNat)]) (us := [.int .u64 ((Wd.hi (Af.inv pa)).toNat), .int .u64 ((Wd.lo (Af.inv pa)).toNat)]) sz_31 F H rfl rfl rfl rfl rfl rfl rfl (Nat.le_of_ble_eq_true rfl) rfl) (Sx.wanted_none rfl _) rfl (fun A w F (H : Sx.Own w0 _ [(true, g7, [.int .u64 ((Wd.hi (Af.inv pa)).toNat), .int .u64 ((Wd.lo (Af.inv pa)).toNat)]), (true, g6, [.int .u64 ((Wd.hi (Af.inv pa)).toNat), .int .u64 ((Wd.lo (Af.inv pa)).toNat), .int .u64 ((Wd.hi (Af.inv pa * (0#128 - pc))).toNat), .int .u64 ((Wd.lo (Af.inv pa * (0#128 - pc))).toNat)]), (true, g5, [.int .u64 ((Wd.hi (Af.oddv x)).toNat), .int .u64 ((Wd.lo (Af.oddv x)).toNat)]), (true, g4, [.int .u64 ((Wd.hi (Af.oddv x)).toNat), .int .u64 ((Wd.lo (Af.oddv x)).toNat)]), (true, g3, [.int .u64 ((Wd.hi x).toNat), .int .u64 ((Wd.lo x).toNat)]), (true, g2, [.int .u64 ((Wd.hi qa).toNat), .int .u64 ((Wd.lo qa).toNat), .int .u64 ((Wd.hi qc).toNat), .int .u64 ((Wd.lo qc).toNat)]), (true, g1, [.int .u64 ((Wd.hi pa).toNat), .int .u64 ((Wd.lo pa).toNat), .int .u64 ((Wd.hi pc).toNat), .int .u64 ((Wd.lo pc).toNat)])] []) => ?_)
  refine Sx.sv F (Sx.d_move F (Or.inr rfl) rfl) (Sx.wanted_none rfl _) rfl (by decide) (fun A F => ?_)
  refine Sx.nil ?_
  refine hK7 _ _ ?_
  refine Sx.seq (fun K8 hK8 => ?_)
  have F := Sx.Fr.to F (kv' := [(0, .agg #[.int .u64 ((Wd.hi pa).toNat), .int .u64 ((Wd.lo pa).toNat), .int .u64 ((Wd.hi pc).toNat), .int .u64 ((Wd.lo pc).toNat)]), (1, .agg #[.int .u64 ((Wd.hi qa).toNat), .int .u64 ((Wd.lo qa).toNat), .int .u64 ((Wd.hi qc).toNat), .int .u64 ((Wd.lo qc).toNat)]), (2, .agg #[.int .u64 ((Wd.hi x).toNat), .int .u64 ((Wd.lo x).toNat)]), (3, .pointer (some ⟨g1, 0, none⟩)), (4, .pointer (some ⟨g2, 0, none⟩)), (5, .pointer (some ⟨g3, 0, none⟩)), (6, .bool false), (16, .bool true), (17, .bool false), (19, .agg #[.int .u64 ((Wd.hi x).toNat), .int .u64 ((Wd.lo x).toNat)]), (20, .tuple #[.agg #[.int .u64 ((Wd.hi (Af.oddv x)).toNat), .int .u64 ((Wd.lo (Af.oddv x)).toNat)], .int .i64 (Af.odde x)]), (18, .tuple #[.agg #[.int .u64 ((Wd.hi (Af.oddv x)).toNat), .int .u64 ((Wd.lo (Af.oddv x)).toNat)], .int .i64 (Af.odde x)]), (21, .agg #[.int .u64 ((Wd.hi (Af.oddv x)).toNat), .int .u64 ((Wd.lo (Af.oddv x)).toNat)]), (22, .int .i64 (Af.odde x)), (7, .pointer (some ⟨g4, 0, none⟩)), (8, .int .i64 (Af.odde x)), (24, .agg #[.int .u64 ((Wd.hi x).toNat), .int .u64 ((Wd.lo x).toNat)]), (25, .tuple #[.agg #[.int .u64 ((Wd.hi (Af.oddv x)).toNat), .int .u64 ((Wd.lo (Af.oddv x)).toNat)], .int .i64 (Af.odde x)]), (23, .tuple #[.agg #[.int .u64 ((Wd.hi (Af.oddv x)).toNat), .int .u64 ((Wd.lo (Af.oddv x)).toNat)], .int .i64 (Af.odde x)]), (26, .agg #[.int .u64 ((Wd.hi (Af.oddv x)).toNat), .int .u64 ((Wd.lo (Af.oddv x)).toNat)]), (27, .int .i64 (Af.odde x)), (9, .pointer (some ⟨g5, 0, none⟩)), (10, .int .i64 (Af.odde x)), (29, .agg #[.int .u64 ((Wd.hi pa).toNat), .int .u64 ((Wd.lo pa).toNat), .int .u64 ((Wd.hi pc).toNat), .int .u64 ((Wd.lo pc).toNat)]), (30, .tuple #[.agg #[.int .u64 ((Wd.hi (Af.inv pa)).toNat), .int .u64 ((Wd.lo (Af.inv pa)).toNat), .int .u64 ((Wd.hi (Af.inv pa * (0#128 - pc))).toNat), .int .u64 ((Wd.lo (Af.inv pa * (0#128 - pc))).toNat)], .int .i64 0]), (28, .tuple #[.agg #[.int .u64 ((Wd.hi (Af.inv pa)).toNat), .int .u64 ((Wd.lo (Af.inv pa)).toNat), .int .u64 ((Wd.hi (Af.inv pa * (0#128 - pc))).toNat), .int .u64 ((Wd.lo (Af.inv pa * (0#128 - pc))).toNat)], .int .i64 0]), (31, .agg #[.int .u64 ((Wd.hi (Af.inv pa)).toNat), .int .u64 ((Wd.lo (Af.inv pa)).toNat), .int .u64 ((Wd.hi (Af.inv pa * (0#128 - pc))).toNat), .int .u64 ((Wd.lo (Af.inv pa * (0#128 - pc))).toNat)]), (32, .int .i64 0), (11, .pointer (some ⟨g6, 0, none⟩)), (12, .int .i64 0), (34, .pointer (some ⟨g1, 0, none⟩)), (35, .agg #[.int .u64 ((Wd.hi pa).toNat), .int .u64 ((Wd.lo pa).toNat)]), (36, .tuple #[.agg #[.int .u64 ((Wd.hi (Af.inv pa)).toNat), .int .u64 ((Wd.lo (Af.inv pa)).toNat)], .int .i64 0]), (33, .tuple #[.agg #[.int .u64 ((Wd.hi (Af.inv pa)).toNat), .int .u64 ((Wd.lo (Af.inv pa)).toNat)], .int .i64 0]), (37, .agg #[.int .u64 ((Wd.hi (Af.inv pa)).toNat), .int .u64 ((Wd.lo (Af.inv pa)).toNat)]), (38, .int .i64 0), (13, .pointer (some ⟨g7, 0, none⟩)), (14, .int .i64 0)]) ⟨rfl, rfl, rfl, rfl, rfl, rfl, rfl, rfl, rfl, rfl, rfl, rfl, rfl, rfl, rfl, rfl, rfl, rfl, rfl, rfl, rfl, rfl, rfl, rfl, rfl, rfl, rfl, rfl, rfl, rfl, rfl, rfl, rfl, rfl, rfl, rfl, rfl, rfl, trivial⟩
  refine Sx.drawn F (by kernel_rfl) (by kernel_rfl) (by kernel_rfl) [some (.agg #[.int .u64 ((Wd.hi pa).toNat), .int .u64 ((Wd.lo pa).toNat), .int .u64 ((Wd.hi pc).toNat), .int .u64 ((Wd.lo pc).toNat)]), some (.agg #[.int .u64 ((Wd.hi pa).toNat), .int .u64 ((Wd.lo pa).toNat), .int .u64 ((Wd.hi pc).toNat), .int .u64 ((Wd.lo pc).toNat)]), some (.agg #[.int .u64 ((Wd.hi (Af.inv pa)).toNat), .int .u64 ((Wd.lo (Af.inv pa)).toNat), .int .u64 ((Wd.hi (Af.inv pa * (0#128 - pc))).toNat), .int .u64 ((Wd.lo (Af.inv pa * (0#128 - pc))).toNat)]), some (.agg #[.int .u64 ((Wd.hi (Af.inv pa)).toNat), .int .u64 ((Wd.lo (Af.inv pa)).toNat), .int .u64 ((Wd.hi (Af.inv pa * (0#128 - pc))).toNat), .int .u64 ((Wd.lo (Af.inv pa * (0#128 - pc))).toNat)]), some (.agg #[.int .u64 ((Wd.hi ((Af.inv pa) * pa)).toNat), .int .u64 ((Wd.lo ((Af.inv pa) * pa)).toNat), .int .u64 ((Wd.hi ((Af.inv pa) * pc + (Af.inv pa * (0#128 - pc)))).toNat), .int .u64 ((Wd.lo ((Af.inv pa) * pc + (Af.inv pa * (0#128 - pc)))).toNat)]), none, none] (fun L A w => ∃ g8 : Nat, (L 5 = true → A.eval (.tmp 15) = .pointer (some ⟨g8, 0, none⟩)) ∧ Sx.Own w0 w [(true, g7, [.int .u64 ((Wd.hi (Af.inv pa)).toNat), .int .u64 ((Wd.lo (Af.inv pa)).toNat)]), (true, g6, [.int .u64 ((Wd.hi (Af.inv pa)).toNat), .int .u64 ((Wd.lo (Af.inv pa)).toNat), .int .u64 ((Wd.hi (Af.inv pa * (0#128 - pc))).toNat), .int .u64 ((Wd.lo (Af.inv pa * (0#128 - pc))).toNat)]), (true, g5, [.int .u64 ((Wd.hi (Af.oddv x)).toNat), .int .u64 ((Wd.lo (Af.oddv x)).toNat)]), (true, g4, [.int .u64 ((Wd.hi (Af.oddv x)).toNat), .int .u64 ((Wd.lo (Af.oddv x)).toNat)]), (true, g3, [.int .u64 ((Wd.hi x).toNat), .int .u64 ((Wd.lo x).toNat)]), (true, g2, [.int .u64 ((Wd.hi qa).toNat), .int .u64 ((Wd.lo qa).toNat), .int .u64 ((Wd.hi qc).toNat), .int .u64 ((Wd.lo qc).toNat)]), (true, g1, [.int .u64 ((Wd.hi pa).toNat), .int .u64 ((Wd.lo pa).toNat), .int .u64 ((Wd.hi pc).toNat), .int .u64 ((Wd.lo pc).toNat)]), (L 5, g8, (cond (L 6) [.int .u64 ((Wd.hi ((Af.inv pa) * pa)).toNat), .int .u64 ((Wd.lo ((Af.inv pa) * pa)).toNat), .int .u64 ((Wd.hi ((Af.inv pa) * pc + (Af.inv pa * (0#128 - pc)))).toNat), .int .u64 ((Wd.lo ((Af.inv pa) * pc + (Af.inv pa * (0#128 - pc)))).toNat)] [.int .u64 ((Wd.hi 0#128).toNat), .int .u64 ((Wd.lo 0#128).toNat), .int .u64 ((Wd.hi 0#128).toNat), .int .u64 ((Wd.lo 0#128).toNat)]))] []) ⟨0, (fun h => by cases h), H.drew.pad [(false, 0, [.int .u64 ((Wd.hi 0#128).toNat), .int .u64 ((Wd.lo 0#128).toNat), .int .u64 ((Wd.hi 0#128).toNat), .int .u64 ((Wd.lo 0#128).toNat)])] rfl [] rfl⟩ ?_ ?_
  · refine ⟨?_, ?_, ?_, ?_, ?_, ?_, ?_, trivial⟩
    · show Sx.StepAt _ _ _ _ _ _ _ 0
      intro L A w up hun hd F ⟨g8, p5, H⟩
      have f6 : L 6 = false := up 6 0 rfl hun
      rw [f6] at H
      have F := Sx.Fr.to F (kv' := [(3, .pointer (some ⟨g1, 0, none⟩))]) ⟨rfl, trivial⟩
      refine Sx.step_on rfl (Sx.d_load (i := 6) (xs := [.int .u64 ((Wd.hi pa).toNat), .int .u64 ((Wd.lo pa).toNat), .int .u64 ((Wd.hi pc).toNat), .int .u64 ((Wd.lo pc).toNat)]) rw_26 F H rfl rfl rfl rfl rfl) ?_
      rintro xv w' ⟨hx, rfl⟩
      exact ⟨(fun cv hc => hx.trans (Option.some.inj (Option.some.inj hc))), ⟨g8, (fun h => (Sx.put_ne rfl _).trans (p5 h)), (by show Sx.Own _ _ _ _; rw [show Inv.add L 0 6 = false from f6]; exact H)⟩⟩
    · show Sx.StepAt _ _ _ _ _ _ _ 1
      intro L A w up hun hd F ⟨g8, p5, H⟩
      have f6 : L 6 = false := up 6 1 rfl hun
      rw [f6] at H
      have F := Sx.Fr.to F (kv' := [(39, .agg #[.int .u64 ((Wd.hi pa).toNat), .int .u64 ((Wd.lo pa).toNat), .int .u64 ((Wd.hi pc).toNat), .int .u64 ((Wd.lo pc).toNat)])]) ⟨rfl, trivial⟩
      refine Sx.step_on rfl (Sx.d_call (vs := [.agg #[.int .u64 ((Wd.hi pa).toNat), .int .u64 ((Wd.lo pa).toNat), .int .u64 ((Wd.hi pc).toNat), .int .u64 ((Wd.lo pc).toNat)]]) (v := .agg #[.int .u64 ((Wd.hi pa).toNat), .int .u64 ((Wd.lo pa).toNat), .int .u64 ((Wd.hi pc).toNat), .int .u64 ((Wd.lo pc).toNat)]) if_20 F H rfl rfl (own09_c pa pc _)) ?_
      rintro xv w' ⟨hx, H⟩
      exact ⟨(fun cv hc => hx.trans (Option.some.inj (Option.some.inj hc))), ⟨g8, (fun h => (Sx.put_ne rfl _).trans (p5 h)), (by show Sx.Own _ _ _ _; rw [show Inv.add L 1 6 = false from f6]; exact H)⟩⟩
    · show Sx.StepAt _ _ _ _ _ _ _ 2
      intro L A w up hun hd F ⟨g8, p5, H⟩
      have f6 : L 6 = false := up 6 2 rfl hun
      rw [f6] at H
      have F := Sx.Fr.to F (kv' := [(11, .pointer (some ⟨g6, 0, none⟩))]) ⟨rfl, trivial⟩
      refine Sx.step_on rfl (Sx.d_load (i := 1) (xs := [.int .u64 ((Wd.hi (Af.inv pa)).toNat), .int .u64 ((Wd.lo (Af.inv pa)).toNat), .int .u64 ((Wd.hi (Af.inv pa * (0#128 - pc))).toNat), .int .u64 ((Wd.lo (Af.inv pa * (0#128 - pc))).toNat)]) rw_26 F H rfl rfl rfl rfl rfl) ?_
      rintro xv w' ⟨hx, rfl⟩
      exact ⟨(fun cv hc => hx.trans (Option.some.inj (Option.some.inj hc))), ⟨g8, (fun h => (Sx.put_ne rfl _).trans (p5 h)), (by show Sx.Own _ _ _ _; rw [show Inv.add L 2 6 = false from f6]; exact H)⟩⟩
    · show Sx.StepAt _ _ _ _ _ _ _ 3
      intro L A w up hun hd F ⟨g8, p5, H⟩
      have f6 : L 6 = false := up 6 3 rfl hun
      rw [f6] at H
      have F := Sx.Fr.to F (kv' := [(41, .agg #[.int .u64 ((Wd.hi (Af.inv pa)).toNat), .int .u64 ((Wd.lo (Af.inv pa)).toNat), .int .u64 ((Wd.hi (Af.inv pa * (0#128 - pc))).toNat), .int .u64 ((Wd.lo (Af.inv pa * (0#128 - pc))).toNat)])]) ⟨rfl, trivial⟩
      refine Sx.step_on rfl (Sx.d_call (vs := [.agg #[.int .u64 ((Wd.hi (Af.inv pa)).toNat), .int .u64 ((Wd.lo (Af.inv pa)).toNat), .int .u64 ((Wd.hi (Af.inv pa * (0#128 - pc))).toNat), .int .u64 ((Wd.lo (Af.inv pa * (0#128 - pc))).toNat)]]) (v := .agg #[.int .u64 ((Wd.hi (Af.inv pa)).toNat), .int .u64 ((Wd.lo (Af.inv pa)).toNat), .int .u64 ((Wd.hi (Af.inv pa * (0#128 - pc))).toNat), .int .u64 ((Wd.lo (Af.inv pa * (0#128 - pc))).toNat)]) if_20 F H rfl rfl (own09_c (Af.inv pa) (Af.inv pa * (0#128 - pc)) _)) ?_
      rintro xv w' ⟨hx, H⟩
      exact ⟨(fun cv hc => hx.trans (Option.some.inj (Option.some.inj hc))), ⟨g8, (fun h => (Sx.put_ne rfl _).trans (p5 h)), (by show Sx.Own _ _ _ _; rw [show Inv.add L 3 6 = false from f6]; exact H)⟩⟩
    · show Sx.StepAt _ _ _ _ _ _ _ 4
      intro L A w up hun hd F ⟨g8, p5, H⟩
      have f6 : L 6 = false := up 6 4 rfl hun
      rw [f6] at H
      have F := Sx.Fr.to F (kv' := [(40, .agg #[.int .u64 ((Wd.hi pa).toNat), .int .u64 ((Wd.lo pa).toNat), .int .u64 ((Wd.hi pc).toNat), .int .u64 ((Wd.lo pc).toNat)]), (42, .agg #[.int .u64 ((Wd.hi (Af.inv pa)).toNat), .int .u64 ((Wd.lo (Af.inv pa)).toNat), .int .u64 ((Wd.hi (Af.inv pa * (0#128 - pc))).toNat), .int .u64 ((Wd.lo (Af.inv pa * (0#128 - pc))).toNat)])]) ⟨rfl, rfl, trivial⟩
      refine Sx.step_on rfl (Sx.d_call (vs := [.agg #[.int .u64 ((Wd.hi pa).toNat), .int .u64 ((Wd.lo pa).toNat), .int .u64 ((Wd.hi pc).toNat), .int .u64 ((Wd.lo pc).toNat)], .agg #[.int .u64 ((Wd.hi (Af.inv pa)).toNat), .int .u64 ((Wd.lo (Af.inv pa)).toNat), .int .u64 ((Wd.hi (Af.inv pa * (0#128 - pc))).toNat), .int .u64 ((Wd.lo (Af.inv pa * (0#128 - pc))).toNat)]]) (v := .agg #[.int .u64 ((Wd.hi ((Af.inv pa) * pa)).toNat), .int .u64 ((Wd.lo ((Af.inv pa) * pa)).toNat), .int .u64 ((Wd.hi ((Af.inv pa) * pc + (Af.inv pa * (0#128 - pc)))).toNat), .int .u64 ((Wd.lo ((Af.inv pa) * pc + (Af.inv pa * (0#128 - pc)))).toNat)]) if_19 F H rfl rfl (rthen9_c pa pc (Af.inv pa) (Af.inv pa * (0#128 - pc)) _)) ?_
      rintro xv w' ⟨hx, H⟩
      exact ⟨(fun cv hc => hx.trans (Option.some.inj (Option.some.inj hc))), ⟨g8, (fun h => (Sx.put_ne rfl _).trans (p5 h)), (by show Sx.Own _ _ _ _; rw [show Inv.add L 4 6 = false from f6]; exact H)⟩⟩
    · show Sx.StepAt _ _ _ _ _ _ _ 5
      intro L A w up hun hd F ⟨g8, p5, H⟩
      have f5 : L 5 = false := hun
      have f6 : L 6 = false := up 6 5 rfl hun
      rw [f5, f6] at H
      have F := Sx.Fr.to F (kv' := []) trivial
      refine Sx.step_on rfl (Sx.d_alloc_at H rfl 7 [.int .u64 ((Wd.hi 0#128).toNat), .int .u64 ((Wd.lo 0#128).toNat), .int .u64 ((Wd.hi 0#128).toNat), .int .u64 ((Wd.lo 0#128).toNat)] zero_37) ?_
      rintro xv w' ⟨g', hx, H⟩
      exact ⟨(fun cv hc => by have h := Option.some.inj hc; cases h), ⟨g', (fun _ => (Sx.put_same F (by decide) _).trans hx), (by show Sx.Own _ _ _ _; rw [show Inv.add L 5 6 = false from f6]; exact H)⟩⟩
    · show Sx.StepAt _ _ _ _ _ _ _ 6
      intro L A w up hun hd F ⟨g8, p5, H⟩
      have t5 : L 5 = true := hd 5 rfl
      have f6 : L 6 = false := hun
      rw [t5, f6] at H
      have F := Sx.Fr.to F (kv' := [(43, .agg #[.int .u64 ((Wd.hi ((Af.inv pa) * pa)).toNat), .int .u64 ((Wd.lo ((Af.inv pa) * pa)).toNat), .int .u64 ((Wd.hi ((Af.inv pa) * pc + (Af.inv pa * (0#128 - pc)))).toNat), .int .u64 ((Wd.lo ((Af.inv pa) * pc + (Af.inv pa * (0#128 - pc)))).toNat)])]) ⟨rfl, trivial⟩
      have F := Sx.Fr.add F (p5 t5)
      refine Sx.step_on rfl (Sx.d_store (i := 7) (xs := [.int .u64 ((Wd.hi ((Af.inv pa) * pa)).toNat), .int .u64 ((Wd.lo ((Af.inv pa) * pa)).toNat), .int .u64 ((Wd.hi ((Af.inv pa) * pc + (Af.inv pa * (0#128 - pc)))).toNat), .int .u64 ((Wd.lo ((Af.inv pa) * pc + (Af.inv pa * (0#128 - pc)))).toNat)]) (us := [.int .u64 ((Wd.hi ((Af.inv pa) * pa)).toNat), .int .u64 ((Wd.lo ((Af.inv pa) * pa)).toNat), .int .u64 ((Wd.hi ((Af.inv pa) * pc + (Af.inv pa * (0#128 - pc)))).toNat), .int .u64 ((Wd.lo ((Af.inv pa) * pc + (Af.inv pa * (0#128 - pc)))).toNat)]) sz_37 F H rfl rfl rfl rfl rfl rfl rfl (Nat.le_of_ble_eq_true rfl) rfl) ?_
      intro xv w' H
      exact ⟨(fun cv hc => by have h := Option.some.inj hc; cases h), ⟨g8, p5, (by show Sx.Own _ _ _ _; rw [show Inv.add L 6 5 = true from t5]; exact H)⟩⟩
  · intro L A w hL F ⟨g8, p5, H⟩
    have t5 : L 5 = true := hL 5 rfl
    have t6 : L 6 = true := hL 6 rfl
    rw [t5, t6] at H
    have F := Sx.Fr.add F (p5 t5)
    have F := Sx.Fr.to F (kv' := [(3, .pointer (some ⟨g1, 0, none⟩)), (4, .pointer (some ⟨g2, 0, none⟩)), (5, .pointer (some ⟨g3, 0, none⟩)), (6, .bool false), (7, .pointer (some ⟨g4, 0, none⟩)), (8, .int .i64 (Af.odde x)), (9, .pointer (some ⟨g5, 0, none⟩)), (10, .int .i64 (Af.odde x)), (11, .pointer (some ⟨g6, 0, none⟩)), (12, .int .i64 0), (14, .int .i64 0), (15, .pointer (some ⟨g8, 0, none⟩))]) ⟨rfl, rfl, rfl, rfl, rfl, rfl, rfl, rfl, rfl, rfl, rfl, rfl, trivial⟩
    refine hK8 _ _ ?_
    refine Sx.seq (fun K9 hK9 => ?_)
    refine Sx.seq (fun K10 hK10 => ?_)
    refine Sx.plain ?_
    refine Sx.sv F (Sx.d_move F (Or.inl rfl) rfl) (Sx.wanted_none rfl _) rfl (by decide) (fun A F => ?_)
    refine Sx.sv F (Sx.d_move F (Or.inl rfl) rfl) (Sx.wanted_none rfl _) rfl (by decide) (fun A F => ?_)
    refine Sx.sv F (Sx.d_bin (v := .bool false) F rfl rfl rfl (Sx.i_ne (by decide))) (Sx.wanted_none rfl _) rfl (by decide) (fun A F => ?_)
    refine Sx.sv F (Sx.d_move F (Or.inl rfl) rfl) (Sx.wanted_none rfl _) rfl (by decide) (fun A F => ?_)
    refine Sx.sv F (Sx.d_move F (Or.inl rfl) rfl) (Sx.wanted_on rfl (Sx.guard_known (d := 47) (b := false) F rfl rfl) rfl) rfl (by decide) (fun A F => ?_)
    refine Sx.sv F (Sx.d_bin (v := .bool false) F rfl rfl rfl (Sx.i_ne (by decide))) (Sx.wanted_on rfl (Sx.guard_known (d := 47) (b := false) F rfl rfl) rfl) rfl (by decide) (fun A F => ?_)
    refine Sx.sv F (Sx.d_move F (Or.inl rfl) rfl) (Sx.wanted_on rfl (Sx.guard_known (d := 47) (b := false) F rfl rfl) rfl) rfl (by decide) (fun A F => ?_)
    refine Sx.su F (Sx.wanted_off rfl (Sx.guard_known (d := 50) (b := false) F rfl rfl) rfl) rfl (by decide) (fun A F => ?_)
    refine Sx.su F (Sx.wanted_off rfl (Sx.guard_known (d := 50) (b := false) F rfl rfl) rfl) rfl (by decide) (fun A F => ?_)
    refine Sx.su F (Sx.wanted_off rfl (Sx.guard_known (d := 50) (b := false) F rfl rfl) rfl) rfl (by decide) (fun A F => ?_)
    refine Sx.sv F (Sx.d_pickF (v := .bool false) F rfl rfl rfl) (Sx.wanted_on rfl (Sx.guard_known (d := 47) (b := false) F rfl rfl) rfl) rfl (by decide) (fun A F => ?_)
    refine Sx.sv F (Sx.d_pickF (v := .bool false) F rfl rfl rfl) (Sx.wanted_none rfl _) rfl (by decide) (fun A F => ?_)
    refine Sx.sv F (Sx.d_move F (Or.inl rfl) rfl) (Sx.wanted_none rfl _) rfl (by decide) (fun A F => ?_)
    refine Sx.sv F (Sx.d_move F (Or.inl rfl) rfl) (Sx.wanted_on rfl (Sx.guard_known (d := 56) (b := false) F rfl rfl) rfl) rfl (by decide) (fun A F => ?_)
    refine Sx.sv F (Sx.d_bin (v := .bool true) F rfl rfl rfl (Sx.i_eq (by decide))) (Sx.wanted_on rfl (Sx.guard_known (d := 56) (b := false) F rfl rfl) rfl) rfl (by decide) (fun A F => ?_)
    refine Sx.sv F (Sx.d_move F (Or.inl rfl) rfl) (Sx.wanted_on rfl (Sx.guard_known (d := 56) (b := false) F rfl rfl) rfl) rfl (by decide) (fun A F => ?_)
    refine Sx.sv F (Sx.d_load (i := 7) (xs := [.int .u64 ((Wd.hi ((Af.inv pa) * pa)).toNat), .int .u64 ((Wd.lo ((Af.inv pa) * pa)).toNat), .int .u64 ((Wd.hi ((Af.inv pa) * pc + (Af.inv pa * (0#128 - pc)))).toNat), .int .u64 ((Wd.lo ((Af.inv pa) * pc + (Af.inv pa * (0#128 - pc)))).toNat)]) rw_37 F H rfl rfl rfl rfl rfl) (Sx.wanted_on rfl (Sx.guard_known (d := 59) (b := true) F rfl rfl) rfl) rfl (by decide) (fun A F => ?_)
    refine Sx.sv F (Sx.d_build (qs := #[(1, .int .u64 1)]) (v := .agg #[.int .u64 ((Wd.hi 1#128).toNat), .int .u64 ((Wd.lo 1#128).toNat)]) F rfl rfl (by kernel_rfl)) (Sx.wanted_on rfl (Sx.guard_known (d := 59) (b := true) F rfl rfl) rfl) rfl (by decide) (fun A F => ?_)
    refine Sx.sv F (Sx.d_build (qs := #[(0, .agg #[.int .u64 ((Wd.hi 1#128).toNat), .int .u64 ((Wd.lo 1#128).toNat)])]) (v := .agg #[.int .u64 ((Wd.hi 1#128).toNat), .int .u64 ((Wd.lo 1#128).toNat), .int .u64 ((Wd.hi 0#128).toNat), .int .u64 ((Wd.lo 0#128).toNat)]) F rfl rfl (by kernel_rfl)) (Sx.wanted_on rfl (Sx.guard_known (d := 59) (b := true) F rfl rfl) rfl) rfl (by decide) (fun A F => ?_)
    refine Sx.sv F (Sx.d_bin (v := .bool false) F rfl rfl rfl (Sx.i_neN (by rw [show Sx.eqbM ((Af.inv pa) * pa) ((Af.inv pa) * pc + (Af.inv pa * (0#128 - pc))) 1#128 0#128 = true from Sx.eqbM_true (Af.inv_mul pa hm) (Af.back0 pa pc)]; rfl))) (Sx.wanted_on rfl (Sx.guard_known (d := 59) (b := true) F rfl rfl) rfl) rfl (by decide) (fun A F => ?_)
    refine Sx.sv F (Sx.d_pickT (v := .bool false) F rfl rfl rfl) (Sx.wanted_on rfl (Sx.guard_known (d := 56) (b := false) F rfl rfl) rfl) rfl (by decide) (fun A F => ?_)
    refine Sx.sv F (Sx.d_pickF (v := .bool false) F rfl rfl rfl) (Sx.wanted_none rfl _) rfl (by decide) (fun A F => ?_)
    refine Sx.nil ?_
    refine hK10 _ _ ?_
    refine Sx.condF F rfl ?_
    refine wp_skip ?_
    refine hK9 _ _ ?_
    refine Sx.seq (fun K11 hK11 => ?_)
    have F := Sx.Fr.to F (kv' := [(3, .pointer (some ⟨g1, 0, none⟩)), (4, .pointer (some ⟨g2, 0, none⟩)), (5, .pointer (some ⟨g3, 0, none⟩)), (7, .pointer (some ⟨g4, 0, none⟩)), (8, .int .i64 (Af.odde x)), (9, .pointer (some ⟨g5, 0, none⟩)), (10, .int .i64 (Af.odde x)), (11, .pointer (some ⟨g6, 0, none⟩)), (12, .int .i64 0), (14, .int .i64 0), (15, .pointer (some ⟨g8, 0, none⟩)), (44, .int .i64 0), (45, .int .i64 0), (46, .bool false), (47, .bool false), (48, .int .i64 0), (49, .bool false), (50, .bool false), (51, undef), (52, undef), (53, undef), (54, .bool false), (55, .bool false), (56, .bool false), (57, .int .i64 0), (58, .bool true), (59, .bool true), (60, .agg #[.int .u64 ((Wd.hi ((Af.inv pa) * pa)).toNat), .int .u64 ((Wd.lo ((Af.inv pa) * pa)).toNat), .int .u64 ((Wd.hi ((Af.inv pa) * pc + (Af.inv pa * (0#128 - pc)))).toNat), .int .u64 ((Wd.lo ((Af.inv pa) * pc + (Af.inv pa * (0#128 - pc)))).toNat)]), (61, .agg #[.int .u64 ((Wd.hi 1#128).toNat), .int .u64 ((Wd.lo 1#128).toNat)]), (62, .agg #[.int .u64 ((Wd.hi 1#128).toNat), .int .u64 ((Wd.lo 1#128).toNat), .int .u64 ((Wd.hi 0#128).toNat), .int .u64 ((Wd.lo 0#128).toNat)]), (63, .bool false), (64, .bool false), (65, .bool false)]) ⟨rfl, rfl, rfl, rfl, rfl, rfl, rfl, rfl, rfl, rfl, rfl, rfl, rfl, rfl, rfl, rfl, rfl, rfl, rfl, rfl, rfl, rfl, rfl, rfl, rfl, rfl, rfl, rfl, rfl, rfl, rfl, rfl, rfl, trivial⟩
    refine Sx.drawn F (by kernel_rfl) (by kernel_rfl) (by kernel_rfl) [some (.agg #[.int .u64 ((Wd.hi pa).toNat), .int .u64 ((Wd.lo pa).toNat), .int .u64 ((Wd.hi pc).toNat), .int .u64 ((Wd.lo pc).toNat)]), some (.agg #[.int .u64 ((Wd.hi x).toNat), .int .u64 ((Wd.lo x).toNat)]), some (.agg #[.int .u64 ((Wd.hi (pa * x + pc)).toNat), .int .u64 ((Wd.lo (pa * x + pc)).toNat)]), some (.agg #[.int .u64 ((Wd.hi pa).toNat), .int .u64 ((Wd.lo pa).toNat), .int .u64 ((Wd.hi pc).toNat), .int .u64 ((Wd.lo pc).toNat)]), some (.agg #[.int .u64 ((Wd.hi pa).toNat), .int .u64 ((Wd.lo pa).toNat), .int .u64 ((Wd.hi pc).toNat), .int .u64 ((Wd.lo pc).toNat)]), some (.agg #[.int .u64 ((Wd.hi x).toNat), .int .u64 ((Wd.lo x).toNat)]), some (.agg #[.int .u64 ((Wd.hi (pa * x + pc)).toNat), .int .u64 ((Wd.lo (pa * x + pc)).toNat)]), some (.bool true), some (.bool true), some (.agg #[.int .u64 ((Wd.hi pa).toNat), .int .u64 ((Wd.lo pa).toNat), .int .u64 ((Wd.hi pc).toNat), .int .u64 ((Wd.lo pc).toNat)]), some (.agg #[.int .u64 ((Wd.hi qa).toNat), .int .u64 ((Wd.lo qa).toNat), .int .u64 ((Wd.hi qc).toNat), .int .u64 ((Wd.lo qc).toNat)]), some (.agg #[.int .u64 ((Wd.hi (qa * pa)).toNat), .int .u64 ((Wd.lo (qa * pa)).toNat), .int .u64 ((Wd.hi (qa * pc + qc)).toNat), .int .u64 ((Wd.lo (qa * pc + qc)).toNat)]), some (.agg #[.int .u64 ((Wd.hi (qa * pa)).toNat), .int .u64 ((Wd.lo (qa * pa)).toNat), .int .u64 ((Wd.hi (qa * pc + qc)).toNat), .int .u64 ((Wd.lo (qa * pc + qc)).toNat)]), some (.agg #[.int .u64 ((Wd.hi pa).toNat), .int .u64 ((Wd.lo pa).toNat), .int .u64 ((Wd.hi pc).toNat), .int .u64 ((Wd.lo pc).toNat)]), some (.agg #[.int .u64 ((Wd.hi pa).toNat), .int .u64 ((Wd.lo pa).toNat), .int .u64 ((Wd.hi pc).toNat), .int .u64 ((Wd.lo pc).toNat)]), some (.agg #[.int .u64 ((Wd.hi qa).toNat), .int .u64 ((Wd.lo qa).toNat), .int .u64 ((Wd.hi qc).toNat), .int .u64 ((Wd.lo qc).toNat)]), some (.agg #[.int .u64 ((Wd.hi qa).toNat), .int .u64 ((Wd.lo qa).toNat), .int .u64 ((Wd.hi qc).toNat), .int .u64 ((Wd.lo qc).toNat)]), some (.agg #[.int .u64 ((Wd.hi (qa * pa)).toNat), .int .u64 ((Wd.lo (qa * pa)).toNat), .int .u64 ((Wd.hi (qa * pc + qc)).toNat), .int .u64 ((Wd.lo (qa * pc + qc)).toNat)]), some (.bool true), some (.bool true), some (.bool true), some (.agg #[.int .u64 ((Wd.hi pa).toNat), .int .u64 ((Wd.lo pa).toNat), .int .u64 ((Wd.hi pc).toNat), .int .u64 ((Wd.lo pc).toNat)]), some (.agg #[.int .u64 ((Wd.hi x).toNat), .int .u64 ((Wd.lo x).toNat)]), some (.agg #[.int .u64 ((Wd.hi ((Af.pow ⟨pa, pc⟩ (x).toNat).a)).toNat), .int .u64 ((Wd.lo ((Af.pow ⟨pa, pc⟩ (x).toNat).a)).toNat), .int .u64 ((Wd.hi ((Af.pow ⟨pa, pc⟩ (x).toNat).c)).toNat), .int .u64 ((Wd.lo ((Af.pow ⟨pa, pc⟩ (x).toNat).c)).toNat)]), some (.agg #[.int .u64 ((Wd.hi ((Af.pow ⟨pa, pc⟩ (x).toNat).a)).toNat), .int .u64 ((Wd.lo ((Af.pow ⟨pa, pc⟩ (x).toNat).a)).toNat), .int .u64 ((Wd.hi ((Af.pow ⟨pa, pc⟩ (x).toNat).c)).toNat), .int .u64 ((Wd.lo ((Af.pow ⟨pa, pc⟩ (x).toNat).c)).toNat)]), some (.agg #[.int .u64 ((Wd.hi pa).toNat), .int .u64 ((Wd.lo pa).toNat), .int .u64 ((Wd.hi pc).toNat), .int .u64 ((Wd.lo pc).toNat)]), some (.agg #[.int .u64 ((Wd.hi pa).toNat), .int .u64 ((Wd.lo pa).toNat), .int .u64 ((Wd.hi pc).toNat), .int .u64 ((Wd.lo pc).toNat)]), some (.agg #[.int .u64 ((Wd.hi x).toNat), .int .u64 ((Wd.lo x).toNat)]), some (.agg #[.int .u64 ((Wd.hi ((Af.pow ⟨pa, pc⟩ (x).toNat).a)).toNat), .int .u64 ((Wd.lo ((Af.pow ⟨pa, pc⟩ (x).toNat).a)).toNat), .int .u64 ((Wd.hi ((Af.pow ⟨pa, pc⟩ (x).toNat).c)).toNat), .int .u64 ((Wd.lo ((Af.pow ⟨pa, pc⟩ (x).toNat).c)).toNat)]), some (.bool true), some (.bool true), some (.bool true), some (.agg #[.int .u64 ((Wd.hi (Af.oddv x)).toNat), .int .u64 ((Wd.lo (Af.oddv x)).toNat)]), some (.agg #[.int .u64 ((Wd.hi (Af.oddv x)).toNat), .int .u64 ((Wd.lo (Af.oddv x)).toNat)]), some (.bool true), some (.bool true), some (.bool true), some (.int .i64 (Af.odde x)), some (.int .i64 (Af.odde x)), some (.bool true), some (.bool true), some (.bool true)] (fun L A w => Sx.Own w0 w [(true, g7, [.int .u64 ((Wd.hi (Af.inv pa)).toNat), .int .u64 ((Wd.lo (Af.inv pa)).toNat)]), (true, g6, [.int .u64 ((Wd.hi (Af.inv pa)).toNat), .int .u64 ((Wd.lo (Af.inv pa)).toNat), .int .u64 ((Wd.hi (Af.inv pa * (0#128 - pc))).toNat), .int .u64 ((Wd.lo (Af.inv pa * (0#128 - pc))).toNat)]), (true, g5, [.int .u64 ((Wd.hi (Af.oddv x)).toNat), .int .u64 ((Wd.lo (Af.oddv x)).toNat)]), (true, g4, [.int .u64 ((Wd.hi (Af.oddv x)).toNat), .int .u64 ((Wd.lo (Af.oddv x)).toNat)]), (true, g3, [.int .u64 ((Wd.hi x).toNat), .int .u64 ((Wd.lo x).toNat)]), (true, g2, [.int .u64 ((Wd.hi qa).toNat), .int .u64 ((Wd.lo qa).toNat), .int .u64 ((Wd.hi qc).toNat), .int .u64 ((Wd.lo qc).toNat)]), (true, g1, [.int .u64 ((Wd.hi pa).toNat), .int .u64 ((Wd.lo pa).toNat), .int .u64 ((Wd.hi pc).toNat), .int .u64 ((Wd.lo pc).toNat)]), (true, g8, [.int .u64 ((Wd.hi ((Af.inv pa) * pa)).toNat), .int .u64 ((Wd.lo ((Af.inv pa) * pa)).toNat), .int .u64 ((Wd.hi ((Af.inv pa) * pc + (Af.inv pa * (0#128 - pc)))).toNat), .int .u64 ((Wd.lo ((Af.inv pa) * pc + (Af.inv pa * (0#128 - pc)))).toNat)])] []) H.drew ?_ ?_
    · refine ⟨?_, ?_, ?_, ?_, ?_, ?_, ?_, ?_, ?_, ?_, ?_, ?_, ?_, ?_, ?_, ?_, ?_, ?_, ?_, ?_, ?_, ?_, ?_, ?_, ?_, ?_, ?_, ?_, ?_, ?_, ?_, ?_, ?_, ?_, ?_, ?_, ?_, ?_, ?_, ?_, ?_, ?_, trivial⟩
      · show Sx.StepAt _ _ _ _ _ _ _ 0
        intro L A w up hun hd F H
        have F := Sx.Fr.to F (kv' := [(3, .pointer (some ⟨g1, 0, none⟩))]) ⟨rfl, trivial⟩
        refine Sx.step_on rfl (Sx.d_load (i := 6) (xs := [.int .u64 ((Wd.hi pa).toNat), .int .u64 ((Wd.lo pa).toNat), .int .u64 ((Wd.hi pc).toNat), .int .u64 ((Wd.lo pc).toNat)]) rw_26 F H rfl rfl rfl rfl rfl) ?_
        rintro xv w' ⟨hx, rfl⟩
        exact ⟨(fun cv hc => hx.trans (Option.some.inj (Option.some.inj hc))), H⟩
      · show Sx.StepAt _ _ _ _ _ _ _ 1
        intro L A w up hun hd F H
        have F := Sx.Fr.to F (kv' := [(5, .pointer (some ⟨g3, 0, none⟩))]) ⟨rfl, trivial⟩
        refine Sx.step_on rfl (Sx.d_load (i := 4) (xs := [.int .u64 ((Wd.hi x).toNat), .int .u64 ((Wd.lo x).toNat)]) rw_24 F H rfl rfl rfl rfl rfl) ?_
        rintro xv w' ⟨hx, rfl⟩
        exact ⟨(fun cv hc => hx.trans (Option.some.inj (Option.some.inj hc))), H⟩
      · show Sx.StepAt _ _ _ _ _ _ _ 2
        intro L A w up hun hd F H
        have F := Sx.Fr.to F (kv' := [(66, .agg #[.int .u64 ((Wd.hi pa).toNat), .int .u64 ((Wd.lo pa).toNat), .int .u64 ((Wd.hi pc).toNat), .int .u64 ((Wd.lo pc).toNat)]), (67, .agg #[.int .u64 ((Wd.hi x).toNat), .int .u64 ((Wd.lo x).toNat)])]) ⟨rfl, rfl, trivial⟩
        refine Sx.step_on rfl (Sx.d_call (vs := [.agg #[.int .u64 ((Wd.hi pa).toNat), .int .u64 ((Wd.lo pa).toNat), .int .u64 ((Wd.hi pc).toNat), .int .u64 ((Wd.lo pc).toNat)], .agg #[.int .u64 ((Wd.hi x).toNat), .int .u64 ((Wd.lo x).toNat)]]) (v := .agg #[.int .u64 ((Wd.hi (pa * x + pc)).toNat), .int .u64 ((Wd.lo (pa * x + pc)).toNat)]) if_21 F H rfl rfl (aat_c pa pc x _)) ?_
        rintro xv w' ⟨hx, H⟩
        exact ⟨(fun cv hc => hx.trans (Option.some.inj (Option.some.inj hc))), H⟩
      · show Sx.StepAt _ _ _ _ _ _ _ 3
        intro L A w up hun hd F H
        have F := Sx.Fr.to F (kv' := [(3, .pointer (some ⟨g1, 0, none⟩))]) ⟨rfl, trivial⟩
        refine Sx.step_on rfl (Sx.d_load (i := 6) (xs := [.int .u64 ((Wd.hi pa).toNat), .int .u64 ((Wd.lo pa).toNat), .int .u64 ((Wd.hi pc).toNat), .int .u64 ((Wd.lo pc).toNat)]) rw_26 F H rfl rfl rfl rfl rfl) ?_
        rintro xv w' ⟨hx, rfl⟩
        exact ⟨(fun cv hc => hx.trans (Option.some.inj (Option.some.inj hc))), H⟩
      · show Sx.StepAt _ _ _ _ _ _ _ 4
        intro L A w up hun hd F H
        have F := Sx.Fr.to F (kv' := [(69, .agg #[.int .u64 ((Wd.hi pa).toNat), .int .u64 ((Wd.lo pa).toNat), .int .u64 ((Wd.hi pc).toNat), .int .u64 ((Wd.lo pc).toNat)])]) ⟨rfl, trivial⟩
        refine Sx.step_on rfl (Sx.d_call (vs := [.agg #[.int .u64 ((Wd.hi pa).toNat), .int .u64 ((Wd.lo pa).toNat), .int .u64 ((Wd.hi pc).toNat), .int .u64 ((Wd.lo pc).toNat)]]) (v := .agg #[.int .u64 ((Wd.hi pa).toNat), .int .u64 ((Wd.lo pa).toNat), .int .u64 ((Wd.hi pc).toNat), .int .u64 ((Wd.lo pc).toNat)]) if_20 F H rfl rfl (own09_c pa pc _)) ?_
        rintro xv w' ⟨hx, H⟩
        exact ⟨(fun cv hc => hx.trans (Option.some.inj (Option.some.inj hc))), H⟩
      · show Sx.StepAt _ _ _ _ _ _ _ 5
        intro L A w up hun hd F H
        have F := Sx.Fr.to F (kv' := [(5, .pointer (some ⟨g3, 0, none⟩))]) ⟨rfl, trivial⟩
        refine Sx.step_on rfl (Sx.d_load (i := 4) (xs := [.int .u64 ((Wd.hi x).toNat), .int .u64 ((Wd.lo x).toNat)]) rw_24 F H rfl rfl rfl rfl rfl) ?_
        rintro xv w' ⟨hx, rfl⟩
        exact ⟨(fun cv hc => hx.trans (Option.some.inj (Option.some.inj hc))), H⟩
      · show Sx.StepAt _ _ _ _ _ _ _ 6
        intro L A w up hun hd F H
        have F := Sx.Fr.to F (kv' := [(70, .agg #[.int .u64 ((Wd.hi pa).toNat), .int .u64 ((Wd.lo pa).toNat), .int .u64 ((Wd.hi pc).toNat), .int .u64 ((Wd.lo pc).toNat)]), (71, .agg #[.int .u64 ((Wd.hi x).toNat), .int .u64 ((Wd.lo x).toNat)])]) ⟨rfl, rfl, trivial⟩
        refine Sx.step_on rfl (Sx.d_call (vs := [.agg #[.int .u64 ((Wd.hi pa).toNat), .int .u64 ((Wd.lo pa).toNat), .int .u64 ((Wd.hi pc).toNat), .int .u64 ((Wd.lo pc).toNat)], .agg #[.int .u64 ((Wd.hi x).toNat), .int .u64 ((Wd.lo x).toNat)]]) (v := .agg #[.int .u64 ((Wd.hi (pa * x + pc)).toNat), .int .u64 ((Wd.lo (pa * x + pc)).toNat)]) if_22 F H rfl rfl (rat9_c pa pc x _)) ?_
        rintro xv w' ⟨hx, H⟩
        exact ⟨(fun cv hc => hx.trans (Option.some.inj (Option.some.inj hc))), H⟩
      · show Sx.StepAt _ _ _ _ _ _ _ 7
        intro L A w up hun hd F H
        have F := Sx.Fr.to F (kv' := [(68, .agg #[.int .u64 ((Wd.hi (pa * x + pc)).toNat), .int .u64 ((Wd.lo (pa * x + pc)).toNat)]), (72, .agg #[.int .u64 ((Wd.hi (pa * x + pc)).toNat), .int .u64 ((Wd.lo (pa * x + pc)).toNat)])]) ⟨rfl, rfl, trivial⟩
        refine Sx.step_on rfl (Sx.d_bin (v := .bool true) F rfl rfl rfl (Sx.i_eqU (eqb_self _))) ?_
        rintro xv w' ⟨hx, rfl⟩
        exact ⟨(fun cv hc => hx.trans (Option.some.inj (Option.some.inj hc))), H⟩
      · show Sx.StepAt _ _ _ _ _ _ _ 8
        intro L A w up hun hd F H
        have F := Sx.Fr.to F (kv' := [(73, .bool true)]) ⟨rfl, trivial⟩
        refine Sx.step_on rfl (Sx.d_move F (Or.inl rfl) rfl) ?_
        rintro xv w' ⟨hx, rfl⟩
        exact ⟨(fun cv hc => hx.trans (Option.some.inj (Option.some.inj hc))), H⟩
      · show Sx.StepAt _ _ _ _ _ _ _ 9
        intro L A w up hun hd F H
        have F := Sx.Fr.to F (kv' := [(3, .pointer (some ⟨g1, 0, none⟩)), (74, .bool true)]) ⟨rfl, rfl, trivial⟩
        refine Sx.step_ong rfl (Sx.guard_known (d := 74) (b := true) F rfl rfl) rfl (Sx.d_load (i := 6) (xs := [.int .u64 ((Wd.hi pa).toNat), .int .u64 ((Wd.lo pa).toNat), .int .u64 ((Wd.hi pc).toNat), .int .u64 ((Wd.lo pc).toNat)]) rw_26 F H rfl rfl rfl rfl rfl) ?_
        rintro xv w' ⟨hx, rfl⟩
        exact ⟨(fun cv hc => hx.trans (Option.some.inj (Option.some.inj hc))), H⟩
      · show Sx.StepAt _ _ _ _ _ _ _ 10
        intro L A w up hun hd F H
        have F := Sx.Fr.to F (kv' := [(4, .pointer (some ⟨g2, 0, none⟩)), (74, .bool true)]) ⟨rfl, rfl, trivial⟩
        refine Sx.step_ong rfl (Sx.guard_known (d := 74) (b := true) F rfl rfl) rfl (Sx.d_load (i := 5) (xs := [.int .u64 ((Wd.hi qa).toNat), .int .u64 ((Wd.lo qa).toNat), .int .u64 ((Wd.hi qc).toNat), .int .u64 ((Wd.lo qc).toNat)]) rw_26 F H rfl rfl rfl rfl rfl) ?_
        rintro xv w' ⟨hx, rfl⟩
        exact ⟨(fun cv hc => hx.trans (Option.some.inj (Option.some.inj hc))), H⟩
      · show Sx.StepAt _ _ _ _ _ _ _ 11
        intro L A w up hun hd F H
        have F := Sx.Fr.to F (kv' := [(75, .agg #[.int .u64 ((Wd.hi pa).toNat), .int .u64 ((Wd.lo pa).toNat), .int .u64 ((Wd.hi pc).toNat), .int .u64 ((Wd.lo pc).toNat)]), (76, .agg #[.int .u64 ((Wd.hi qa).toNat), .int .u64 ((Wd.lo qa).toNat), .int .u64 ((Wd.hi qc).toNat), .int .u64 ((Wd.lo qc).toNat)]), (74, .bool true)]) ⟨rfl, rfl, rfl, trivial⟩
        refine Sx.step_ong rfl (Sx.guard_known (d := 74) (b := true) F rfl rfl) rfl (Sx.d_call (vs := [.agg #[.int .u64 ((Wd.hi pa).toNat), .int .u64 ((Wd.lo pa).toNat), .int .u64 ((Wd.hi pc).toNat), .int .u64 ((Wd.lo pc).toNat)], .agg #[.int .u64 ((Wd.hi qa).toNat), .int .u64 ((Wd.lo qa).toNat), .int .u64 ((Wd.hi qc).toNat), .int .u64 ((Wd.lo qc).toNat)]]) (v := .agg #[.int .u64 ((Wd.hi (qa * pa)).toNat), .int .u64 ((Wd.lo (qa * pa)).toNat), .int .u64 ((Wd.hi (qa * pc + qc)).toNat), .int .u64 ((Wd.lo (qa * pc + qc)).toNat)]) if_23 F H rfl rfl (athen_c pa pc qa qc _)) ?_
        rintro xv w' ⟨hx, H⟩
        exact ⟨(fun cv hc => hx.trans (Option.some.inj (Option.some.inj hc))), H⟩
      · show Sx.StepAt _ _ _ _ _ _ _ 12
        intro L A w up hun hd F H
        have F := Sx.Fr.to F (kv' := [(77, .agg #[.int .u64 ((Wd.hi (qa * pa)).toNat), .int .u64 ((Wd.lo (qa * pa)).toNat), .int .u64 ((Wd.hi (qa * pc + qc)).toNat), .int .u64 ((Wd.lo (qa * pc + qc)).toNat)]), (74, .bool true)]) ⟨rfl, rfl, trivial⟩
        refine Sx.step_ong rfl (Sx.guard_known (d := 74) (b := true) F rfl rfl) rfl (Sx.d_call (vs := [.agg #[.int .u64 ((Wd.hi (qa * pa)).toNat), .int .u64 ((Wd.lo (qa * pa)).toNat), .int .u64 ((Wd.hi (qa * pc + qc)).toNat), .int .u64 ((Wd.lo (qa * pc + qc)).toNat)]]) (v := .agg #[.int .u64 ((Wd.hi (qa * pa)).toNat), .int .u64 ((Wd.lo (qa * pa)).toNat), .int .u64 ((Wd.hi (qa * pc + qc)).toNat), .int .u64 ((Wd.lo (qa * pc + qc)).toNat)]) if_20 F H rfl rfl (own09_c (qa * pa) (qa * pc + qc) _)) ?_
        rintro xv w' ⟨hx, H⟩
        exact ⟨(fun cv hc => hx.trans (Option.some.inj (Option.some.inj hc))), H⟩
      · show Sx.StepAt _ _ _ _ _ _ _ 13
        intro L A w up hun hd F H
        have F := Sx.Fr.to F (kv' := [(3, .pointer (some ⟨g1, 0, none⟩)), (74, .bool true)]) ⟨rfl, rfl, trivial⟩
        refine Sx.step_ong rfl (Sx.guard_known (d := 74) (b := true) F rfl rfl) rfl (Sx.d_load (i := 6) (xs := [.int .u64 ((Wd.hi pa).toNat), .int .u64 ((Wd.lo pa).toNat), .int .u64 ((Wd.hi pc).toNat), .int .u64 ((Wd.lo pc).toNat)]) rw_26 F H rfl rfl rfl rfl rfl) ?_
        rintro xv w' ⟨hx, rfl⟩
        exact ⟨(fun cv hc => hx.trans (Option.some.inj (Option.some.inj hc))), H⟩
      · show Sx.StepAt _ _ _ _ _ _ _ 14
        intro L A w up hun hd F H
        have F := Sx.Fr.to F (kv' := [(79, .agg #[.int .u64 ((Wd.hi pa).toNat), .int .u64 ((Wd.lo pa).toNat), .int .u64 ((Wd.hi pc).toNat), .int .u64 ((Wd.lo pc).toNat)]), (74, .bool true)]) ⟨rfl, rfl, trivial⟩
        refine Sx.step_ong rfl (Sx.guard_known (d := 74) (b := true) F rfl rfl) rfl (Sx.d_call (vs := [.agg #[.int .u64 ((Wd.hi pa).toNat), .int .u64 ((Wd.lo pa).toNat), .int .u64 ((Wd.hi pc).toNat), .int .u64 ((Wd.lo pc).toNat)]]) (v := .agg #[.int .u64 ((Wd.hi pa).toNat), .int .u64 ((Wd.lo pa).toNat), .int .u64 ((Wd.hi pc).toNat), .int .u64 ((Wd.lo pc).toNat)]) if_20 F H rfl rfl (own09_c pa pc _)) ?_
        rintro xv w' ⟨hx, H⟩
        exact ⟨(fun cv hc => hx.trans (Option.some.inj (Option.some.inj hc))), H⟩
      · show Sx.StepAt _ _ _ _ _ _ _ 15
        intro L A w up hun hd F H
        have F := Sx.Fr.to F (kv' := [(4, .pointer (some ⟨g2, 0, none⟩)), (74, .bool true)]) ⟨rfl, rfl, trivial⟩
        refine Sx.step_ong rfl (Sx.guard_known (d := 74) (b := true) F rfl rfl) rfl (Sx.d_load (i := 5) (xs := [.int .u64 ((Wd.hi qa).toNat), .int .u64 ((Wd.lo qa).toNat), .int .u64 ((Wd.hi qc).toNat), .int .u64 ((Wd.lo qc).toNat)]) rw_26 F H rfl rfl rfl rfl rfl) ?_
        rintro xv w' ⟨hx, rfl⟩
        exact ⟨(fun cv hc => hx.trans (Option.some.inj (Option.some.inj hc))), H⟩
      · show Sx.StepAt _ _ _ _ _ _ _ 16
        intro L A w up hun hd F H
        have F := Sx.Fr.to F (kv' := [(81, .agg #[.int .u64 ((Wd.hi qa).toNat), .int .u64 ((Wd.lo qa).toNat), .int .u64 ((Wd.hi qc).toNat), .int .u64 ((Wd.lo qc).toNat)]), (74, .bool true)]) ⟨rfl, rfl, trivial⟩
        refine Sx.step_ong rfl (Sx.guard_known (d := 74) (b := true) F rfl rfl) rfl (Sx.d_call (vs := [.agg #[.int .u64 ((Wd.hi qa).toNat), .int .u64 ((Wd.lo qa).toNat), .int .u64 ((Wd.hi qc).toNat), .int .u64 ((Wd.lo qc).toNat)]]) (v := .agg #[.int .u64 ((Wd.hi qa).toNat), .int .u64 ((Wd.lo qa).toNat), .int .u64 ((Wd.hi qc).toNat), .int .u64 ((Wd.lo qc).toNat)]) if_20 F H rfl rfl (own09_c qa qc _)) ?_
        rintro xv w' ⟨hx, H⟩
        exact ⟨(fun cv hc => hx.trans (Option.some.inj (Option.some.inj hc))), H⟩
      · show Sx.StepAt _ _ _ _ _ _ _ 17
        intro L A w up hun hd F H
        have F := Sx.Fr.to F (kv' := [(80, .agg #[.int .u64 ((Wd.hi pa).toNat), .int .u64 ((Wd.lo pa).toNat), .int .u64 ((Wd.hi pc).toNat), .int .u64 ((Wd.lo pc).toNat)]), (82, .agg #[.int .u64 ((Wd.hi qa).toNat), .int .u64 ((Wd.lo qa).toNat), .int .u64 ((Wd.hi qc).toNat), .int .u64 ((Wd.lo qc).toNat)]), (74, .bool true)]) ⟨rfl, rfl, rfl, trivial⟩
        refine Sx.step_ong rfl (Sx.guard_known (d := 74) (b := true) F rfl rfl) rfl (Sx.d_call (vs := [.agg #[.int .u64 ((Wd.hi pa).toNat), .int .u64 ((Wd.lo pa).toNat), .int .u64 ((Wd.hi pc).toNat), .int .u64 ((Wd.lo pc).toNat)], .agg #[.int .u64 ((Wd.hi qa).toNat), .int .u64 ((Wd.lo qa).toNat), .int .u64 ((Wd.hi qc).toNat), .int .u64 ((Wd.lo qc).toNat)]]) (v := .agg #[.int .u64 ((Wd.hi (qa * pa)).toNat), .int .u64 ((Wd.lo (qa * pa)).toNat), .int .u64 ((Wd.hi (qa * pc + qc)).toNat), .int .u64 ((Wd.lo (qa * pc + qc)).toNat)]) if_19 F H rfl rfl (rthen9_c pa pc qa qc _)) ?_
        rintro xv w' ⟨hx, H⟩
        exact ⟨(fun cv hc => hx.trans (Option.some.inj (Option.some.inj hc))), H⟩
      · show Sx.StepAt _ _ _ _ _ _ _ 18
        intro L A w up hun hd F H
        have F := Sx.Fr.to F (kv' := [(78, .agg #[.int .u64 ((Wd.hi (qa * pa)).toNat), .int .u64 ((Wd.lo (qa * pa)).toNat), .int .u64 ((Wd.hi (qa * pc + qc)).toNat), .int .u64 ((Wd.lo (qa * pc + qc)).toNat)]), (83, .agg #[.int .u64 ((Wd.hi (qa * pa)).toNat), .int .u64 ((Wd.lo (qa * pa)).toNat), .int .u64 ((Wd.hi (qa * pc + qc)).toNat), .int .u64 ((Wd.lo (qa * pc + qc)).toNat)]), (74, .bool true)]) ⟨rfl, rfl, rfl, trivial⟩
        refine Sx.step_ong rfl (Sx.guard_known (d := 74) (b := true) F rfl rfl) rfl (Sx.d_bin (v := .bool true) F rfl rfl rfl (Sx.i_eqN (Sx.eqbM_true rfl rfl))) ?_
        rintro xv w' ⟨hx, rfl⟩
        exact ⟨(fun cv hc => hx.trans (Option.some.inj (Option.some.inj hc))), H⟩
      · show Sx.StepAt _ _ _ _ _ _ _ 19
        intro L A w up hun hd F H
        have F := Sx.Fr.to F (kv' := [(74, .bool true), (84, .bool true)]) ⟨rfl, rfl, trivial⟩
        refine Sx.step_on rfl (Sx.d_pickT (v := .bool true) F rfl rfl rfl) ?_
        rintro xv w' ⟨hx, rfl⟩
        exact ⟨(fun cv hc => hx.trans (Option.some.inj (Option.some.inj hc))), H⟩
      · show Sx.StepAt _ _ _ _ _ _ _ 20
        intro L A w up hun hd F H
        have F := Sx.Fr.to F (kv' := [(85, .bool true)]) ⟨rfl, trivial⟩
        refine Sx.step_on rfl (Sx.d_move F (Or.inl rfl) rfl) ?_
        rintro xv w' ⟨hx, rfl⟩
        exact ⟨(fun cv hc => hx.trans (Option.some.inj (Option.some.inj hc))), H⟩
      · show Sx.StepAt _ _ _ _ _ _ _ 21
        intro L A w up hun hd F H
        have F := Sx.Fr.to F (kv' := [(3, .pointer (some ⟨g1, 0, none⟩)), (86, .bool true)]) ⟨rfl, rfl, trivial⟩
        refine Sx.step_ong rfl (Sx.guard_known (d := 86) (b := true) F rfl rfl) rfl (Sx.d_load (i := 6) (xs := [.int .u64 ((Wd.hi pa).toNat), .int .u64 ((Wd.lo pa).toNat), .int .u64 ((Wd.hi pc).toNat), .int .u64 ((Wd.lo pc).toNat)]) rw_26 F H rfl rfl rfl rfl rfl) ?_
        rintro xv w' ⟨hx, rfl⟩
        exact ⟨(fun cv hc => hx.trans (Option.some.inj (Option.some.inj hc))), H⟩
      · show Sx.StepAt _ _ _ _ _ _ _ 22
        intro L A w up hun hd F H
        have F := Sx.Fr.to F (kv' := [(5, .pointer (some ⟨g3, 0, none⟩)), (86, .bool true)]) ⟨rfl, rfl, trivial⟩
        refine Sx.step_ong rfl (Sx.guard_known (d := 86) (b := true) F rfl rfl) rfl (Sx.d_load (i := 4) (xs := [.int .u64 ((Wd.hi x).toNat), .int .u64 ((Wd.lo x).toNat)]) rw_24 F H rfl rfl rfl rfl rfl) ?_
        rintro xv w' ⟨hx, rfl⟩
        exact ⟨(fun cv hc => hx.trans (Option.some.inj (Option.some.inj hc))), H⟩
      · show Sx.StepAt _ _ _ _ _ _ _ 23
        intro L A w up hun hd F H
        have F := Sx.Fr.to F (kv' := [(87, .agg #[.int .u64 ((Wd.hi pa).toNat), .int .u64 ((Wd.lo pa).toNat), .int .u64 ((Wd.hi pc).toNat), .int .u64 ((Wd.lo pc).toNat)]), (88, .agg #[.int .u64 ((Wd.hi x).toNat), .int .u64 ((Wd.lo x).toNat)]), (86, .bool true)]) ⟨rfl, rfl, rfl, trivial⟩
        refine Sx.step_ong rfl (Sx.guard_known (d := 86) (b := true) F rfl rfl) rfl (Sx.d_call (vs := [.agg #[.int .u64 ((Wd.hi pa).toNat), .int .u64 ((Wd.lo pa).toNat), .int .u64 ((Wd.hi pc).toNat), .int .u64 ((Wd.lo pc).toNat)], .agg #[.int .u64 ((Wd.hi x).toNat), .int .u64 ((Wd.lo x).toNat)]]) (v := .agg #[.int .u64 ((Wd.hi ((Af.pow ⟨pa, pc⟩ (x).toNat).a)).toNat), .int .u64 ((Wd.lo ((Af.pow ⟨pa, pc⟩ (x).toNat).a)).toNat), .int .u64 ((Wd.hi ((Af.pow ⟨pa, pc⟩ (x).toNat).c)).toNat), .int .u64 ((Wd.lo ((Af.pow ⟨pa, pc⟩ (x).toNat).c)).toNat)]) if_24 F H rfl rfl (apow_c pa pc x _)) ?_
        rintro xv w' ⟨hx, H⟩
        exact ⟨(fun cv hc => hx.trans (Option.some.inj (Option.some.inj hc))), H⟩
      · show Sx.StepAt _ _ _ _ _ _ _ 24
        intro L A w up hun hd F H
        have F := Sx.Fr.to F (kv' := [(89, .agg #[.int .u64 ((Wd.hi ((Af.pow ⟨pa, pc⟩ (x).toNat).a)).toNat), .int .u64 ((Wd.lo ((Af.pow ⟨pa, pc⟩ (x).toNat).a)).toNat), .int .u64 ((Wd.hi ((Af.pow ⟨pa, pc⟩ (x).toNat).c)).toNat), .int .u64 ((Wd.lo ((Af.pow ⟨pa, pc⟩ (x).toNat).c)).toNat)]), (86, .bool true)]) ⟨rfl, rfl, trivial⟩
        refine Sx.step_ong rfl (Sx.guard_known (d := 86) (b := true) F rfl rfl) rfl (Sx.d_call (vs := [.agg #[.int .u64 ((Wd.hi ((Af.pow ⟨pa, pc⟩ (x).toNat).a)).toNat), .int .u64 ((Wd.lo ((Af.pow ⟨pa, pc⟩ (x).toNat).a)).toNat), .int .u64 ((Wd.hi ((Af.pow ⟨pa, pc⟩ (x).toNat).c)).toNat), .int .u64 ((Wd.lo ((Af.pow ⟨pa, pc⟩ (x).toNat).c)).toNat)]]) (v := .agg #[.int .u64 ((Wd.hi ((Af.pow ⟨pa, pc⟩ (x).toNat).a)).toNat), .int .u64 ((Wd.lo ((Af.pow ⟨pa, pc⟩ (x).toNat).a)).toNat), .int .u64 ((Wd.hi ((Af.pow ⟨pa, pc⟩ (x).toNat).c)).toNat), .int .u64 ((Wd.lo ((Af.pow ⟨pa, pc⟩ (x).toNat).c)).toNat)]) if_20 F H rfl rfl (own09_c ((Af.pow ⟨pa, pc⟩ (x).toNat).a) ((Af.pow ⟨pa, pc⟩ (x).toNat).c) _)) ?_
        rintro xv w' ⟨hx, H⟩
        exact ⟨(fun cv hc => hx.trans (Option.some.inj (Option.some.inj hc))), H⟩
      · show Sx.StepAt _ _ _ _ _ _ _ 25
        intro L A w up hun hd F H
        have F := Sx.Fr.to F (kv' := [(3, .pointer (some ⟨g1, 0, none⟩)), (86, .bool true)]) ⟨rfl, rfl, trivial⟩
        refine Sx.step_ong rfl (Sx.guard_known (d := 86) (b := true) F rfl rfl) rfl (Sx.d_load (i := 6) (xs := [.int .u64 ((Wd.hi pa).toNat), .int .u64 ((Wd.lo pa).toNat), .int .u64 ((Wd.hi pc).toNat), .int .u64 ((Wd.lo pc).toNat)]) rw_26 F H rfl rfl rfl rfl rfl) ?_
        rintro xv w' ⟨hx, rfl⟩
        exact ⟨(fun cv hc => hx.trans (Option.some.inj (Option.some.inj hc))), H⟩
      · show Sx.StepAt _ _ _ _ _ _ _ 26
        intro L A w up hun hd F H
        have F := Sx.Fr.to F (kv' := [(91, .agg #[.int .u64 ((Wd.hi pa).toNat), .int .u64 ((Wd.lo pa).toNat), .int .u64 ((Wd.hi pc).toNat), .int .u64 ((Wd.lo pc).toNat)]), (86, .bool true)]) ⟨rfl, rfl, trivial⟩
        refine Sx.step_ong rfl (Sx.guard_known (d := 86) (b := true) F rfl rfl) rfl (Sx.d_call (vs := [.agg #[.int .u64 ((Wd.hi pa).toNat), .int .u64 ((Wd.lo pa).toNat), .int .u64 ((Wd.hi pc).toNat), .int .u64 ((Wd.lo pc).toNat)]]) (v := .agg #[.int .u64 ((Wd.hi pa).toNat), .int .u64 ((Wd.lo pa).toNat), .int .u64 ((Wd.hi pc).toNat), .int .u64 ((Wd.lo pc).toNat)]) if_20 F H rfl rfl (own09_c pa pc _)) ?_
        rintro xv w' ⟨hx, H⟩
        exact ⟨(fun cv hc => hx.trans (Option.some.inj (Option.some.inj hc))), H⟩
      · show Sx.StepAt _ _ _ _ _ _ _ 27
        intro L A w up hun hd F H
        have F := Sx.Fr.to F (kv' := [(5, .pointer (some ⟨g3, 0, none⟩)), (86, .bool true)]) ⟨rfl, rfl, trivial⟩
        refine Sx.step_ong rfl (Sx.guard_known (d := 86) (b := true) F rfl rfl) rfl (Sx.d_load (i := 4) (xs := [.int .u64 ((Wd.hi x).toNat), .int .u64 ((Wd.lo x).toNat)]) rw_24 F H rfl rfl rfl rfl rfl) ?_
        rintro xv w' ⟨hx, rfl⟩
        exact ⟨(fun cv hc => hx.trans (Option.some.inj (Option.some.inj hc))), H⟩
      · show Sx.StepAt _ _ _ _ _ _ _ 28
        intro L A w up hun hd F H
        have F := Sx.Fr.to F (kv' := [(92, .agg #[.int .u64 ((Wd.hi pa).toNat), .int .u64 ((Wd.lo pa).toNat), .int .u64 ((Wd.hi pc).toNat), .int .u64 ((Wd.lo pc).toNat)]), (93, .agg #[.int .u64 ((Wd.hi x).toNat), .int .u64 ((Wd.lo x).toNat)]), (86, .bool true)]) ⟨rfl, rfl, rfl, trivial⟩
        refine Sx.step_ong rfl (Sx.guard_known (d := 86) (b := true) F rfl rfl) rfl (Sx.d_call (vs := [.agg #[.int .u64 ((Wd.hi pa).toNat), .int .u64 ((Wd.lo pa).toNat), .int .u64 ((Wd.hi pc).toNat), .int .u64 ((Wd.lo pc).toNat)], .agg #[.int .u64 ((Wd.hi x).toNat), .int .u64 ((Wd.lo x).toNat)]]) (v := .agg #[.int .u64 ((Wd.hi ((Af.pow ⟨pa, pc⟩ (x).toNat).a)).toNat), .int .u64 ((Wd.lo ((Af.pow ⟨pa, pc⟩ (x).toNat).a)).toNat), .int .u64 ((Wd.hi ((Af.pow ⟨pa, pc⟩ (x).toNat).c)).toNat), .int .u64 ((Wd.lo ((Af.pow ⟨pa, pc⟩ (x).toNat).c)).toNat)]) if_25 F H rfl rfl (rpow9_c pa pc x _)) ?_
        rintro xv w' ⟨hx, H⟩
        exact ⟨(fun cv hc => hx.trans (Option.some.inj (Option.some.inj hc))), H⟩
      · show Sx.StepAt _ _ _ _ _ _ _ 29
        intro L A w up hun hd F H
        have F := Sx.Fr.to F (kv' := [(90, .agg #[.int .u64 ((Wd.hi ((Af.pow ⟨pa, pc⟩ (x).toNat).a)).toNat), .int .u64 ((Wd.lo ((Af.pow ⟨pa, pc⟩ (x).toNat).a)).toNat), .int .u64 ((Wd.hi ((Af.pow ⟨pa, pc⟩ (x).toNat).c)).toNat), .int .u64 ((Wd.lo ((Af.pow ⟨pa, pc⟩ (x).toNat).c)).toNat)]), (94, .agg #[.int .u64 ((Wd.hi ((Af.pow ⟨pa, pc⟩ (x).toNat).a)).toNat), .int .u64 ((Wd.lo ((Af.pow ⟨pa, pc⟩ (x).toNat).a)).toNat), .int .u64 ((Wd.hi ((Af.pow ⟨pa, pc⟩ (x).toNat).c)).toNat), .int .u64 ((Wd.lo ((Af.pow ⟨pa, pc⟩ (x).toNat).c)).toNat)]), (86, .bool true)]) ⟨rfl, rfl, rfl, trivial⟩
        refine Sx.step_ong rfl (Sx.guard_known (d := 86) (b := true) F rfl rfl) rfl (Sx.d_bin (v := .bool true) F rfl rfl rfl (Sx.i_eqN (Sx.eqbM_true rfl rfl))) ?_
        rintro xv w' ⟨hx, rfl⟩
        exact ⟨(fun cv hc => hx.trans (Option.some.inj (Option.some.inj hc))), H⟩
      · show Sx.StepAt _ _ _ _ _ _ _ 30
        intro L A w up hun hd F H
        have F := Sx.Fr.to F (kv' := [(86, .bool true), (95, .bool true)]) ⟨rfl, rfl, trivial⟩
        refine Sx.step_on rfl (Sx.d_pickT (v := .bool true) F rfl rfl rfl) ?_
        rintro xv w' ⟨hx, rfl⟩
        exact ⟨(fun cv hc => hx.trans (Option.some.inj (Option.some.inj hc))), H⟩
      · show Sx.StepAt _ _ _ _ _ _ _ 31
        intro L A w up hun hd F H
        have F := Sx.Fr.to F (kv' := [(96, .bool true)]) ⟨rfl, trivial⟩
        refine Sx.step_on rfl (Sx.d_move F (Or.inl rfl) rfl) ?_
        rintro xv w' ⟨hx, rfl⟩
        exact ⟨(fun cv hc => hx.trans (Option.some.inj (Option.some.inj hc))), H⟩
      · show Sx.StepAt _ _ _ _ _ _ _ 32
        intro L A w up hun hd F H
        have F := Sx.Fr.to F (kv' := [(7, .pointer (some ⟨g4, 0, none⟩)), (97, .bool true)]) ⟨rfl, rfl, trivial⟩
        refine Sx.step_ong rfl (Sx.guard_known (d := 97) (b := true) F rfl rfl) rfl (Sx.d_load (i := 3) (xs := [.int .u64 ((Wd.hi (Af.oddv x)).toNat), .int .u64 ((Wd.lo (Af.oddv x)).toNat)]) rw_24 F H rfl rfl rfl rfl rfl) ?_
        rintro xv w' ⟨hx, rfl⟩
        exact ⟨(fun cv hc => hx.trans (Option.some.inj (Option.some.inj hc))), H⟩
      · show Sx.StepAt _ _ _ _ _ _ _ 33
        intro L A w up hun hd F H
        have F := Sx.Fr.to F (kv' := [(9, .pointer (some ⟨g5, 0, none⟩)), (97, .bool true)]) ⟨rfl, rfl, trivial⟩
        refine Sx.step_ong rfl (Sx.guard_known (d := 97) (b := true) F rfl rfl) rfl (Sx.d_load (i := 2) (xs := [.int .u64 ((Wd.hi (Af.oddv x)).toNat), .int .u64 ((Wd.lo (Af.oddv x)).toNat)]) rw_31 F H rfl rfl rfl rfl rfl) ?_
        rintro xv w' ⟨hx, rfl⟩
        exact ⟨(fun cv hc => hx.trans (Option.some.inj (Option.some.inj hc))), H⟩
      · show Sx.StepAt _ _ _ _ _ _ _ 34
        intro L A w up hun hd F H
        have F := Sx.Fr.to F (kv' := [(98, .agg #[.int .u64 ((Wd.hi (Af.oddv x)).toNat), .int .u64 ((Wd.lo (Af.oddv x)).toNat)]), (99, .agg #[.int .u64 ((Wd.hi (Af.oddv x)).toNat), .int .u64 ((Wd.lo (Af.oddv x)).toNat)]), (97, .bool true)]) ⟨rfl, rfl, rfl, trivial⟩
        refine Sx.step_ong rfl (Sx.guard_known (d := 97) (b := true) F rfl rfl) rfl (Sx.d_bin (v := .bool true) F rfl rfl rfl (Sx.i_eqU (eqb_self _))) ?_
        rintro xv w' ⟨hx, rfl⟩
        exact ⟨(fun cv hc => hx.trans (Option.some.inj (Option.some.inj hc))), H⟩
      · show Sx.StepAt _ _ _ _ _ _ _ 35
        intro L A w up hun hd F H
        have F := Sx.Fr.to F (kv' := [(97, .bool true), (100, .bool true)]) ⟨rfl, rfl, trivial⟩
        refine Sx.step_on rfl (Sx.d_pickT (v := .bool true) F rfl rfl rfl) ?_
        rintro xv w' ⟨hx, rfl⟩
        exact ⟨(fun cv hc => hx.trans (Option.some.inj (Option.some.inj hc))), H⟩
      · show Sx.StepAt _ _ _ _ _ _ _ 36
        intro L A w up hun hd F H
        have F := Sx.Fr.to F (kv' := [(101, .bool true)]) ⟨rfl, trivial⟩
        refine Sx.step_on rfl (Sx.d_move F (Or.inl rfl) rfl) ?_
        rintro xv w' ⟨hx, rfl⟩
        exact ⟨(fun cv hc => hx.trans (Option.some.inj (Option.some.inj hc))), H⟩
      · show Sx.StepAt _ _ _ _ _ _ _ 37
        intro L A w up hun hd F H
        have F := Sx.Fr.to F (kv' := [(8, .int .i64 (Af.odde x)), (102, .bool true)]) ⟨rfl, rfl, trivial⟩
        refine Sx.step_ong rfl (Sx.guard_known (d := 102) (b := true) F rfl rfl) rfl (Sx.d_move F (Or.inl rfl) rfl) ?_
        rintro xv w' ⟨hx, rfl⟩
        exact ⟨(fun cv hc => hx.trans (Option.some.inj (Option.some.inj hc))), H⟩
      · show Sx.StepAt _ _ _ _ _ _ _ 38
        intro L A w up hun hd F H
        have F := Sx.Fr.to F (kv' := [(10, .int .i64 (Af.odde x)), (102, .bool true)]) ⟨rfl, rfl, trivial⟩
        refine Sx.step_ong rfl (Sx.guard_known (d := 102) (b := true) F rfl rfl) rfl (Sx.d_move F (Or.inl rfl) rfl) ?_
        rintro xv w' ⟨hx, rfl⟩
        exact ⟨(fun cv hc => hx.trans (Option.some.inj (Option.some.inj hc))), H⟩
      · show Sx.StepAt _ _ _ _ _ _ _ 39
        intro L A w up hun hd F H
        have F := Sx.Fr.to F (kv' := [(103, .int .i64 (Af.odde x)), (104, .int .i64 (Af.odde x)), (102, .bool true)]) ⟨rfl, rfl, rfl, trivial⟩
        refine Sx.step_ong rfl (Sx.guard_known (d := 102) (b := true) F rfl rfl) rfl (Sx.d_bin (v := .bool true) F rfl rfl rfl (Sx.i_eq (by simp))) ?_
        rintro xv w' ⟨hx, rfl⟩
        exact ⟨(fun cv hc => hx.trans (Option.some.inj (Option.some.inj hc))), H⟩
      · show Sx.StepAt _ _ _ _ _ _ _ 40
        intro L A w up hun hd F H
        have F := Sx.Fr.to F (kv' := [(102, .bool true), (105, .bool true)]) ⟨rfl, rfl, trivial⟩
        refine Sx.step_on rfl (Sx.d_pickT (v := .bool true) F rfl rfl rfl) ?_
        rintro xv w' ⟨hx, rfl⟩
        exact ⟨(fun cv hc => hx.trans (Option.some.inj (Option.some.inj hc))), H⟩
      · show Sx.StepAt _ _ _ _ _ _ _ 41
        intro L A w up hun hd F H
        have F := Sx.Fr.to F (kv' := [(106, .bool true)]) ⟨rfl, trivial⟩
        refine Sx.step_on rfl (Sx.d_move F (Or.inr rfl) rfl) ?_
        rintro xv w' ⟨hx, rfl⟩
        exact ⟨(fun cv hc => hx.trans (Option.some.inj (Option.some.inj hc))), H⟩
    · intro L A w hL F H
      have F := Sx.Fr.to F (kv' := [(6, .bool true)]) ⟨rfl, trivial⟩
      refine hK11 _ _ ?_
      refine wp_ret ?_
      try dsimp only [Exit.then, Exit.inBlock, Exit.jump]
      refine Sx.ret1 F Try.results3 (Sx.res_tmp (v := .bool true) F rfl) ⟨?_, H.below⟩
      rfl
set_option maxRecDepth 100000 in
theorem affineTells_no (pa pc qa qc x : BitVec 128) (hm : Af.odd pa = false) (w0 : World) : Calls Try.prog 3 #[.agg #[.int .u64 ((Wd.hi pa).toNat), .int .u64 ((Wd.lo pa).toNat), .int .u64 ((Wd.hi pc).toNat), .int .u64 ((Wd.lo pc).toNat)], .agg #[.int .u64 ((Wd.hi qa).toNat), .int .u64 ((Wd.lo qa).toNat), .int .u64 ((Wd.hi qc).toNat), .int .u64 ((Wd.lo qc).toNat)], .agg #[.int .u64 ((Wd.hi x).toNat), .int .u64 ((Wd.lo x).toNat)]] w0 fun e w' => e = .returned (.bool true) ∧ Below w0.heap.size w0 w' := by
  refine Sx.enter (args := [.agg #[.int .u64 ((Wd.hi pa).toNat), .int .u64 ((Wd.lo pa).toNat), .int .u64 ((Wd.hi pc).toNat), .int .u64 ((Wd.lo pc).toNat)], .agg #[.int .u64 ((Wd.hi qa).toNat), .int .u64 ((Wd.lo qa).toNat), .int .u64 ((Wd.hi qc).toNat), .int .u64 ((Wd.lo qc).toNat)], .agg #[.int .u64 ((Wd.hi x).toNat), .int .u64 ((Wd.lo x).toNat)]]) Try.func3 rfl Try.ntmps3 (Nat.le_of_ble_eq_true rfl) (fun A F => ?_)
  have H := Sx.Own.start w0
  refine Sx.seq (fun K1 hK1 => ?_)
  refine Sx.plain ?_
  refine Sx.sb F (Sx.d_box F H rfl rfl [.int .u64 ((Wd.hi pa).toNat), .int .u64 ((Wd.lo pa).toNat), .int .u64 ((Wd.hi pc).toNat), .int .u64 ((Wd.lo pc).toNat)] rfl) (Sx.wanted_none rfl _) rfl (by decide) (fun g1 A w F H => ?_)
  refine Sx.sb F (Sx.d_box F H rfl rfl [.int .u64 ((Wd.hi qa).toNat), .int .u64 ((Wd.lo qa).toNat), .int .u64 ((Wd.hi qc).toNat), .int .u64 ((Wd.lo qc).toNat)] rfl) (Sx.wanted_none rfl _) rfl (by decide) (fun g2 A w F H => ?_)
  refine Sx.sb F (Sx.d_box F H rfl rfl [.int .u64 ((Wd.hi x).toNat), .int .u64 ((Wd.lo x).toNat)] rfl) (Sx.wanted_none rfl _) rfl (by decide) (fun g3 A w F H => ?_)
  refine Sx.sv F (Sx.d_move F (Or.inr rfl) rfl) (Sx.wanted_none rfl _) rfl (by decide) (fun A F => ?_)
  refine Sx.nil ?_
  refine hK1 _ _ ?_
  refine Sx.seq (fun K2 hK2 => ?_)
  refine Sx.seq (fun K3 hK3 => ?_)
  refine Sx.plain ?_
  refine Sx.sw F (Sx.d_call (vs := []) (v := .bool true) if_15 F H rfl rfl (awake09_c _)) (Sx.wanted_none rfl _) rfl (by decide) (fun A w F H => ?_)
  refine Sx.sv F (Sx.d_un (v := .bool false) F rfl rfl rfl) (Sx.wanted_none rfl _) rfl (by decide) (fun A F => ?_)
  refine Sx.nil ?_
  refine hK3 _ _ ?_
  refine Sx.condF F rfl ?_
  refine wp_skip ?_
  refine hK2 _ _ ?_
  refine Sx.seq (fun K4 hK4 => ?_)
  refine Sx.plain ?_
  refine Sx.sv F (Sx.d_load (i := 0) (xs := [.int .u64 ((Wd.hi x).toNat), .int .u64 ((Wd.lo x).toNat)]) rw_24 F H rfl rfl rfl rfl rfl) (Sx.wanted_none rfl _) rfl (by decide) (fun A F => ?_)
  refine Sx.sw F (Sx.d_call (vs := [.agg #[.int .u64 ((Wd.hi x).toNat), .int .u64 ((Wd.lo x).toNat)]]) (v := .tuple #[.agg #[.int .u64 ((Wd.hi (Af.oddv x)).toNat), .int .u64 ((Wd.lo (Af.oddv x)).toNat)], .int .i64 (Af.odde x)]) if_16 F H rfl rfl (aoddT_c x _)) (Sx.wanted_none rfl _) rfl (by decide) (fun A w F H => ?_)
  refine Sx.sv F (Sx.d_move F (Or.inl rfl) rfl) (Sx.wanted_none rfl _) rfl (by decide) (fun A F => ?_)
  refine Sx.sv F (Sx.d_extract (v := .agg #[.int .u64 ((Wd.hi (Af.oddv x)).toNat), .int .u64 ((Wd.lo (Af.oddv x)).toNat)]) F rfl rfl rfl) (Sx.wanted_none rfl _) rfl (by decide) (fun A F => ?_)
  refine Sx.sv F (Sx.d_extract (v := .int .i64 (Af.odde x)) F rfl rfl rfl) (Sx.wanted_none rfl _) rfl (by decide) (fun A F => ?_)
  refine Sx.sb F (Sx.d_alloc H rfl [.int .u64 ((Wd.hi 0#128).toNat), .int .u64 ((Wd.lo 0#128).toNat)] zero_24) (Sx.wanted_none rfl _) rfl (by decide) (fun g4 A w F H => ?_)
  refine Sx.ss F (Sx.d_store (i := 0) (xs := [.int .u64 ((Wd.hi (Af.oddv x)).toNat), .int .u64 ((Wd.lo (Af.oddv x)).toNat)]) (us := [.int .u64 ((Wd.hi (Af.oddv x)).toNat), .int .u64 ((Wd.lo (Af.oddv x)).toNat)]) sz_24 F H rfl rfl rfl rfl rfl rfl rfl (Nat.le_of_ble_eq_true rfl) rfl) (Sx.wanted_none rfl _) rfl (fun A w F (H : Sx.Own w0 _ [(true, g4, [.int .u64 ((Wd.hi (Af.oddv x)).toNat), .int .u64 ((Wd.lo (Af.oddv x)).toNat)]), (true, g3, [.int .u64 ((Wd.hi x).toNat), .int .u64 ((Wd.lo x).toNat)]), (true, g2, [.int .u64 ((Wd.hi qa).toNat), .int .u64 ((Wd.lo qa).toNat), .int .u64 ((Wd.hi qc).toNat), .int .u64 ((Wd.lo qc).toNat)]), (true, g1, [.int .u64 ((Wd.hi pa).toNat), .int .u64 ((Wd.lo pa).toNat), .int .u64 ((Wd.hi pc).toNat), .int .u64 ((Wd.lo pc).toNat)])] []) => ?_)
  refine Sx.sv F (Sx.d_move F (Or.inr rfl) rfl) (Sx.wanted_none rfl _) rfl (by decide) (fun A F => ?_)
  refine Sx.nil ?_
  refine hK4 _ _ ?_
  refine Sx.seq (fun K5 hK5 => ?_)
  refine Sx.plain ?_
  refine Sx.sv F (Sx.d_load (i := 1) (xs := [.int .u64 ((Wd.hi x).toNat), .int .u64 ((Wd.lo x).toNat)]) rw_24 F H rfl rfl rfl rfl rfl) (Sx.wanted_none rfl _) rfl (by decide) (fun A F => ?_)
  refine Sx.sw F (Sx.d_call (vs := [.agg #[.int .u64 ((Wd.hi x).toNat), .int .u64 ((Wd.lo x).toNat)]]) (v := .tuple #[.agg #[.int .u64 ((Wd.hi (Af.oddv x)).toNat), .int .u64 ((Wd.lo (Af.oddv x)).toNat)], .int .i64 (Af.odde x)]) if_17 F H rfl rfl (rodd9T_c x _)) (Sx.wanted_none rfl _) rfl (by decide) (fun A w F H => ?_)
  refine Sx.sv F (Sx.d_move F (Or.inl rfl) rfl) (Sx.wanted_none rfl _) rfl (by decide) (fun A F => ?_)
  refine Sx.sv F (Sx.d_extract (v := .agg #[.int .u64 ((Wd.hi (Af.oddv x)).toNat), .int .u64 ((Wd.lo (Af.oddv x)).toNat)]) F rfl rfl rfl) (Sx.wanted_none rfl _) rfl (by decide) (fun A F => ?_)
  refine Sx.sv F (Sx.d_extract (v := .int .i64 (Af.odde x)) F rfl rfl rfl) (Sx.wanted_none rfl _) rfl (by decide) (fun A F => ?_)
  refine Sx.sb F (Sx.d_alloc H rfl [.int .u64 ((Wd.hi 0#128).toNat), .int .u64 ((Wd.lo 0#128).toNat)] zero_31) (Sx.wanted_none rfl _) rfl (by decide) (fun g5 A w F H => ?_)
  refine Sx.ss F (Sx.d_store (i := 0) (xs := [.int .u64 ((Wd.hi (Af.oddv x)).toNat), .int .u64 ((Wd.lo (Af.oddv x)).toNat)]) (us := [.int .u64 ((Wd.hi (Af.oddv x)).toNat), .int .u64 ((Wd.lo (Af.oddv x)).toNat)]) sz_31 F H rfl rfl rfl rfl rfl rfl rfl (Nat.le_of_ble_eq_true rfl) rfl) (Sx.wanted_none rfl _) rfl (fun A w F (H : Sx.Own w0 _ [(true, g5, [.int .u64 ((Wd.hi (Af.oddv x)).toNat), .int .u64 ((Wd.lo (Af.oddv x)).toNat)]), (true, g4, [.int .u64 ((Wd.hi (Af.oddv x)).toNat), .int .u64 ((Wd.lo (Af.oddv x)).toNat)]), (true, g3, [.int .u64 ((Wd.hi x).toNat), .int .u64 ((Wd.lo x).toNat)]), (true, g2, [.int .u64 ((Wd.hi qa).toNat), .int .u64 ((Wd.lo qa).toNat), .int .u64 ((Wd.hi qc).toNat), .int .u64 ((Wd.lo qc).toNat)]), (true, g1, [.int .u64 ((Wd.hi pa).toNat), .int .u64 ((Wd.lo pa).toNat), .int .u64 ((Wd.hi pc).toNat), .int .u64 ((Wd.lo pc).toNat)])] []) => ?_)
  refine Sx.sv F (Sx.d_move F (Or.inr rfl) rfl) (Sx.wanted_none rfl _) rfl (by decide) (fun A F => ?_)
  refine Sx.nil ?_
  refine hK5 _ _ ?_
  refine Sx.seq (fun K6 hK6 => ?_)
  refine Sx.plain ?_
  refine Sx.sv F (Sx.d_load (i := 4) (xs := [.int .u64 ((Wd.hi pa).toNat), .int .u64 ((Wd.lo pa).toNat), .int .u64 ((Wd.hi pc).toNat), .int .u64 ((Wd.lo pc).toNat)]) rw_26 F H rfl rfl rfl rfl rfl) (Sx.wanted_none rfl _) rfl (by decide) (fun A F => ?_)
  refine Sx.sw F (Sx.d_call (vs := [.agg #[.int .u64 ((Wd.hi pa).toNat), .int .u64 ((Wd.lo pa).toNat), .int .u64 ((Wd.hi pc).toNat), .int .u64 ((Wd.lo pc).toNat)]]) (v := .tuple #[.agg #[.int .u64 ((Wd.hi 0#128).toNat), .int .u64 ((Wd.lo 0#128).toNat), .int .u64 ((Wd.hi 0#128).toNat), .int .u64 ((Wd.lo 0#128).toNat)], .int .i64 1]) if_18 F H rfl rfl (Calls.val (ainv_no pa pc hm _) rfl (by kernel_rfl))) (Sx.wanted_none rfl _) rfl (by decide) (fun A w F H => ?_)
  refine Sx.sv F (Sx.d_move F (Or.inl rfl) rfl) (Sx.wanted_none rfl _) rfl (by decide) (fun A F => ?_)
  refine Sx.sv F (Sx.d_extract (v := .agg #[.int .u64 ((Wd.hi 0#128).toNat), .int .u64 ((Wd.lo 0#128).toNat), .int .u64 ((Wd.hi 0#128).toNat), .int .u64 ((Wd.lo 0#128).toNat)]) F rfl rfl rfl) (Sx.wanted_none rfl _) rfl (by decide) (fun A F => ?_)
  refine Sx.sv F (Sx.d_extract (v := .int .i64 1) F rfl rfl rfl) (Sx.wanted_none rfl _) rfl (by decide) (fun A F => ?_)
  refine Sx.sb F (Sx.d_alloc H rfl [.int .u64 ((Wd.hi 0#128).toNat), .int .u64 ((Wd.lo 0#128).toNat), .int .u64 ((Wd.hi 0#128).toNat), .int .u64 ((Wd.lo 0#128).toNat)] zero_26) (Sx.wanted_none rfl _) rfl (by decide) (fun g6 A w F H => ?_)
  refine Sx.ss F (Sx.d_store (i := 0) (xs := [.int .u64 ((Wd.hi 0#128).toNat), .int .u64 ((Wd.lo 0#128).toNat), .int .u64 ((Wd.hi 0#128).toNat), .int .u64 ((Wd.lo 0#128).toNat)]) (us := [.int .u64 ((Wd.hi 0#128).toNat), .int .u64 ((Wd.lo 0#128).toNat), .int .u64 ((Wd.hi 0#128).toNat), .int .u64 ((Wd.lo 0#128).toNat)]) sz_26 F H rfl rfl rfl rfl rfl rfl rfl (Nat.le_of_ble_eq_true rfl) rfl) (Sx.wanted_none rfl _) rfl (fun A w F (H : Sx.Own w0 _ [(true, g6, [.int .u64 ((Wd.hi 0#128).toNat), .int .u64 ((Wd.lo 0#128).toNat), .int .u64 ((Wd.hi 0#128).toNat), .int .u64 ((Wd.lo 0#128).toNat)]), (true, g5, [.int .u64 ((Wd.hi (Af.oddv x)).toNat), .int .u64 ((Wd.lo (Af.oddv x)).toNat)]), (true, g4, [.int .u64 ((Wd.hi (Af.oddv x)).toNat), .int .u64 ((Wd.lo (Af.oddv x)).toNat)]), (true, g3, [.int .u64 ((Wd.hi x).toNat), .int .u64 ((Wd.lo x).toNat)]), (true, g2, [.int .u64 ((Wd.hi qa).toNat), .int .u64 ((Wd.lo qa).toNat), .int .u64 ((Wd.hi qc).toNat), .int .u64 ((Wd.lo qc).toNat)]), (true, g1, [.int .u64 ((Wd.hi pa).toNat), .int .u64 ((Wd.lo pa).toNat), .int .u64 ((Wd.hi pc).toNat), .int .u64 ((Wd.lo pc).toNat)])] []) => ?_)
  refine Sx.sv F (Sx.d_move F (Or.inr rfl) rfl) (Sx.wanted_none rfl _) rfl (by decide) (fun A F => ?_)
  refine Sx.nil ?_
  refine hK6 _ _ ?_
  refine Sx.seq (fun K7 hK7 => ?_)
  refine Sx.plain ?_
  refine Sx.sv F (Sx.d_faddr (v := .pointer (some ⟨g1, 0, none⟩)) F rfl rfl (fa_26_0 _ 0 _)) (Sx.wanted_none rfl _) rfl (by decide) (fun A F => ?_)
  refine Sx.sv F (Sx.d_load (i := 5) (xs := [.int .u64 ((Wd.hi pa).toNat), .int .u64 ((Wd.lo pa).toNat)]) rw_24 F H rfl rfl rfl rfl rfl) (Sx.wanted_none rfl _) rfl (by decide) (fun A F => ?_)
  refine Sx.sw F (Sx.d_call (vs := [.agg #[.int .u64 ((Wd.hi pa).toNat), .int .u64 ((Wd.lo pa).toNat)]]) (v := .tuple #[.agg #[.int .u64 ((Wd.hi 0#128).toNat), .int .u64 ((Wd.lo 0#128).toNat)], .int .i64 1]) if_17 F H rfl rfl (rodd9_no pa hm _)) (Sx.wanted_none rfl _) rfl (by decide) (fun A w F H => ?_)
  refine Sx.sv F (Sx.d_move F (Or.inl rfl) rfl) (Sx.wanted_none rfl _) rfl (by decide) (fun A F => ?_)
  refine Sx.sv F (Sx.d_extract (v := .agg #[.int .u64 ((Wd.hi 0#128).toNat), .int .u64 ((Wd.lo 0#128).toNat)]) F rfl rfl rfl) (Sx.wanted_none rfl _) rfl (by decide) (fun A F => ?_)
  refine Sx.sv F (Sx.d_extract (v := .int .i64 1) F rfl rfl rfl) (Sx.wanted_none rfl _) rfl (by decide) (fun A F => ?_)
  refine Sx.sb F (Sx.d_alloc H rfl [.int .u64 ((Wd.hi 0#128).toNat), .int .u64 ((Wd.lo 0#128).toNat)] zero_31) (Sx.wanted_none rfl _) rfl (by decide) (fun g7 A w F H => ?_)
  refine Sx.ss F (Sx.d_store (i := 0) (xs := [.int .u64 ((Wd.hi 0#128).toNat), .int .u64 ((Wd.lo 0#128).toNat)]) (us := [.int .u64 ((Wd.hi 0#128).toNat), .int .u64 ((Wd.lo 0#128).toNat)]) sz_31 F H rfl rfl rfl rfl rfl rfl rfl (Nat.le_of_ble_eq_true rfl) rfl) (Sx.wanted_none rfl _) rfl (fun A w F (H : Sx.Own w0 _ [(true, g7, [.int .u64 ((Wd.hi 0#128).toNat), .int .u64 ((Wd.lo 0#128).toNat)]), (true, g6, [.int .u64 ((Wd.hi 0#128).toNat), .int .u64 ((Wd.lo 0#128).toNat), .int .u64 ((Wd.hi 0#128).toNat), .int .u64 ((Wd.lo 0#128).toNat)]), (true, g5, [.int .u64 ((Wd.hi (Af.oddv x)).toNat), .int .u64 ((Wd.lo (Af.oddv x)).toNat)]), (true, g4, [.int .u64 ((Wd.hi (Af.oddv x)).toNat), .int .u64 ((Wd.lo (Af.oddv x)).toNat)]), (true, g3, [.int .u64 ((Wd.hi x).toNat), .int .u64 ((Wd.lo x).toNat)]), (true, g2, [.int .u64 ((Wd.hi qa).toNat), .int .u64 ((Wd.lo qa).toNat), .int .u64 ((Wd.hi qc).toNat), .int .u64 ((Wd.lo qc).toNat)]), (true, g1, [.int .u64 ((Wd.hi pa).toNat), .int .u64 ((Wd.lo pa).toNat), .int .u64 ((Wd.hi pc).toNat), .int .u64 ((Wd.lo pc).toNat)])] []) => ?_)
  refine Sx.sv F (Sx.d_move F (Or.inr rfl) rfl) (Sx.wanted_none rfl _) rfl (by decide) (fun A F => ?_)
  refine Sx.nil ?_
  refine hK7 _ _ ?_
  refine Sx.seq (fun K8 hK8 => ?_)
  have F := Sx.Fr.to F (kv' := [(0, .agg #[.int .u64 ((Wd.hi pa).toNat), .int .u64 ((Wd.lo pa).toNat), .int .u64 ((Wd.hi pc).toNat), .int .u64 ((Wd.lo pc).toNat)]), (1, .agg #[.int .u64 ((Wd.hi qa).toNat), .int .u64 ((Wd.lo qa).toNat), .int .u64 ((Wd.hi qc).toNat), .int .u64 ((Wd.lo qc).toNat)]), (2, .agg #[.int .u64 ((Wd.hi x).toNat), .int .u64 ((Wd.lo x).toNat)]), (3, .pointer (some ⟨g1, 0, none⟩)), (4, .pointer (some ⟨g2, 0, none⟩)), (5, .pointer (some ⟨g3, 0, none⟩)), (6, .bool false), (16, .bool true), (17, .bool false), (19, .agg #[.int .u64 ((Wd.hi x).toNat), .int .u64 ((Wd.lo x).toNat)]), (20, .tuple #[.agg #[.int .u64 ((Wd.hi (Af.oddv x)).toNat), .int .u64 ((Wd.lo (Af.oddv x)).toNat)], .int .i64 (Af.odde x)]), (18, .tuple #[.agg #[.int .u64 ((Wd.hi (Af.oddv x)).toNat), .int .u64 ((Wd.lo (Af.oddv x)).toNat)], .int .i64 (Af.odde x)]), (21, .agg #[.int .u64 ((Wd.hi (Af.oddv x)).toNat), .int .u64 ((Wd.lo (Af.oddv x)).toNat)]), (22, .int .i64 (Af.odde x)), (7, .pointer (some ⟨g4, 0, none⟩)), (8, .int .i64 (Af.odde x)), (24, .agg #[.int .u64 ((Wd.hi x).toNat), .int .u64 ((Wd.lo x).toNat)]), (25, .tuple #[.agg #[.int .u64 ((Wd.hi (Af.oddv x)).toNat), .int .u64 ((Wd.lo (Af.oddv x)).toNat)], .int .i64 (Af.odde x)]), (23, .tuple #[.agg #[.int .u64 ((Wd.hi (Af.oddv x)).toNat), .int .u64 ((Wd.lo (Af.oddv x)).toNat)], .int .i64 (Af.odde x)]), (26, .agg #[.int .u64 ((Wd.hi (Af.oddv x)).toNat), .int .u64 ((Wd.lo (Af.oddv x)).toNat)]), (27, .int .i64 (Af.odde x)), (9, .pointer (some ⟨g5, 0, none⟩)), (10, .int .i64 (Af.odde x)), (29, .agg #[.int .u64 ((Wd.hi pa).toNat), .int .u64 ((Wd.lo pa).toNat), .int .u64 ((Wd.hi pc).toNat), .int .u64 ((Wd.lo pc).toNat)]), (30, .tuple #[.agg #[.int .u64 ((Wd.hi 0#128).toNat), .int .u64 ((Wd.lo 0#128).toNat), .int .u64 ((Wd.hi 0#128).toNat), .int .u64 ((Wd.lo 0#128).toNat)], .int .i64 1]), (28, .tuple #[.agg #[.int .u64 ((Wd.hi 0#128).toNat), .int .u64 ((Wd.lo 0#128).toNat), .int .u64 ((Wd.hi 0#128).toNat), .int .u64 ((Wd.lo 0#128).toNat)], .int .i64 1]), (31, .agg #[.int .u64 ((Wd.hi 0#128).toNat), .int .u64 ((Wd.lo 0#128).toNat), .int .u64 ((Wd.hi 0#128).toNat), .int .u64 ((Wd.lo 0#128).toNat)]), (32, .int .i64 1), (11, .pointer (some ⟨g6, 0, none⟩)), (12, .int .i64 1), (34, .pointer (some ⟨g1, 0, none⟩)), (35, .agg #[.int .u64 ((Wd.hi pa).toNat), .int .u64 ((Wd.lo pa).toNat)]), (36, .tuple #[.agg #[.int .u64 ((Wd.hi 0#128).toNat), .int .u64 ((Wd.lo 0#128).toNat)], .int .i64 1]), (33, .tuple #[.agg #[.int .u64 ((Wd.hi 0#128).toNat), .int .u64 ((Wd.lo 0#128).toNat)], .int .i64 1]), (37, .agg #[.int .u64 ((Wd.hi 0#128).toNat), .int .u64 ((Wd.lo 0#128).toNat)]), (38, .int .i64 1), (13, .pointer (some ⟨g7, 0, none⟩)), (14, .int .i64 1)]) ⟨rfl, rfl, rfl, rfl, rfl, rfl, rfl, rfl, rfl, rfl, rfl, rfl, rfl, rfl, rfl, rfl, rfl, rfl, rfl, rfl, rfl, rfl, rfl, rfl, rfl, rfl, rfl, rfl, rfl, rfl, rfl, rfl, rfl, rfl, rfl, rfl, rfl, rfl, trivial⟩
  refine Sx.drawn F (by kernel_rfl) (by kernel_rfl) (by kernel_rfl) [some (.agg #[.int .u64 ((Wd.hi pa).toNat), .int .u64 ((Wd.lo pa).toNat), .int .u64 ((Wd.hi pc).toNat), .int .u64 ((Wd.lo pc).toNat)]), some (.agg #[.int .u64 ((Wd.hi pa).toNat), .int .u64 ((Wd.lo pa).toNat), .int .u64 ((Wd.hi pc).toNat), .int .u64 ((Wd.lo pc).toNat)]), some (.agg #[.int .u64 ((Wd.hi 0#128).toNat), .int .u64 ((Wd.lo 0#128).toNat), .int .u64 ((Wd.hi 0#128).toNat), .int .u64 ((Wd.lo 0#128).toNat)]), some (.agg #[.int .u64 ((Wd.hi 0#128).toNat), .int .u64 ((Wd.lo 0#128).toNat), .int .u64 ((Wd.hi 0#128).toNat), .int .u64 ((Wd.lo 0#128).toNat)]), some (.agg #[.int .u64 ((Wd.hi (0#128 * pa)).toNat), .int .u64 ((Wd.lo (0#128 * pa)).toNat), .int .u64 ((Wd.hi (0#128 * pc + 0#128)).toNat), .int .u64 ((Wd.lo (0#128 * pc + 0#128)).toNat)]), none, none] (fun L A w => ∃ g8 : Nat, (L 5 = true → A.eval (.tmp 15) = .pointer (some ⟨g8, 0, none⟩)) ∧ Sx.Own w0 w [(true, g7, [.int .u64 ((Wd.hi 0#128).toNat), .int .u64 ((Wd.lo 0#128).toNat)]), (true, g6, [.int .u64 ((Wd.hi 0#128).toNat), .int .u64 ((Wd.lo 0#128).toNat), .int .u64 ((Wd.hi 0#128).toNat), .int .u64 ((Wd.lo 0#128).toNat)]), (true, g5, [.int .u64 ((Wd.hi (Af.oddv x)).toNat), .int .u64 ((Wd.lo (Af.oddv x)).toNat)]), (true, g4, [.int .u64 ((Wd.hi (Af.oddv x)).toNat), .int .u64 ((Wd.lo (Af.oddv x)).toNat)]), (true, g3, [.int .u64 ((Wd.hi x).toNat), .int .u64 ((Wd.lo x).toNat)]), (true, g2, [.int .u64 ((Wd.hi qa).toNat), .int .u64 ((Wd.lo qa).toNat), .int .u64 ((Wd.hi qc).toNat), .int .u64 ((Wd.lo qc).toNat)]), (true, g1, [.int .u64 ((Wd.hi pa).toNat), .int .u64 ((Wd.lo pa).toNat), .int .u64 ((Wd.hi pc).toNat), .int .u64 ((Wd.lo pc).toNat)]), (L 5, g8, (cond (L 6) [.int .u64 ((Wd.hi (0#128 * pa)).toNat), .int .u64 ((Wd.lo (0#128 * pa)).toNat), .int .u64 ((Wd.hi (0#128 * pc + 0#128)).toNat), .int .u64 ((Wd.lo (0#128 * pc + 0#128)).toNat)] [.int .u64 ((Wd.hi 0#128).toNat), .int .u64 ((Wd.lo 0#128).toNat), .int .u64 ((Wd.hi 0#128).toNat), .int .u64 ((Wd.lo 0#128).toNat)]))] []) ⟨0, (fun h => by cases h), H.drew.pad [(false, 0, [.int .u64 ((Wd.hi 0#128).toNat), .int .u64 ((Wd.lo 0#128).toNat), .int .u64 ((Wd.hi 0#128).toNat), .int .u64 ((Wd.lo 0#128).toNat)])] rfl [] rfl⟩ ?_ ?_
  · refine ⟨?_, ?_, ?_, ?_, ?_, ?_, ?_, trivial⟩
    · show Sx.StepAt _ _ _ _ _ _ _ 0
      intro L A w up hun hd F ⟨g8, p5, H⟩
      have f6 : L 6 = false := up 6 0 rfl hun
      rw [f6] at H
      have F := Sx.Fr.to F (kv' := [(3, .pointer (some ⟨g1, 0, none⟩))]) ⟨rfl, trivial⟩
      refine Sx.step_on rfl (Sx.d_load (i := 6) (xs := [.int .u64 ((Wd.hi pa).toNat), .int .u64 ((Wd.lo pa).toNat), .int .u64 ((Wd.hi pc).toNat), .int .u64 ((Wd.lo pc).toNat)]) rw_26 F H rfl rfl rfl rfl rfl) ?_
      rintro xv w' ⟨hx, rfl⟩
      exact ⟨(fun cv hc => hx.trans (Option.some.inj (Option.some.inj hc))), ⟨g8, (fun h => (Sx.put_ne rfl _).trans (p5 h)), (by show Sx.Own _ _ _ _; rw [show Inv.add L 0 6 = false from f6]; exact H)⟩⟩
    · show Sx.StepAt _ _ _ _ _ _ _ 1
      intro L A w up hun hd F ⟨g8, p5, H⟩
      have f6 : L 6 = false := up 6 1 rfl hun
      rw [f6] at H
      have F := Sx.Fr.to F (kv' := [(39, .agg #[.int .u64 ((Wd.hi pa).toNat), .int .u64 ((Wd.lo pa).toNat), .int .u64 ((Wd.hi pc).toNat), .int .u64 ((Wd.lo pc).toNat)])]) ⟨rfl, trivial⟩
      refine Sx.step_on rfl (Sx.d_call (vs := [.agg #[.int .u64 ((Wd.hi pa).toNat), .int .u64 ((Wd.lo pa).toNat), .int .u64 ((Wd.hi pc).toNat), .int .u64 ((Wd.lo pc).toNat)]]) (v := .agg #[.int .u64 ((Wd.hi pa).toNat), .int .u64 ((Wd.lo pa).toNat), .int .u64 ((Wd.hi pc).toNat), .int .u64 ((Wd.lo pc).toNat)]) if_20 F H rfl rfl (own09_c pa pc _)) ?_
      rintro xv w' ⟨hx, H⟩
      exact ⟨(fun cv hc => hx.trans (Option.some.inj (Option.some.inj hc))), ⟨g8, (fun h => (Sx.put_ne rfl _).trans (p5 h)), (by show Sx.Own _ _ _ _; rw [show Inv.add L 1 6 = false from f6]; exact H)⟩⟩
    · show Sx.StepAt _ _ _ _ _ _ _ 2
      intro L A w up hun hd F ⟨g8, p5, H⟩
      have f6 : L 6 = false := up 6 2 rfl hun
      rw [f6] at H
      have F := Sx.Fr.to F (kv' := [(11, .pointer (some ⟨g6, 0, none⟩))]) ⟨rfl, trivial⟩
      refine Sx.step_on rfl (Sx.d_load (i := 1) (xs := [.int .u64 ((Wd.hi 0#128).toNat), .int .u64 ((Wd.lo 0#128).toNat), .int .u64 ((Wd.hi 0#128).toNat), .int .u64 ((Wd.lo 0#128).toNat)]) rw_26 F H rfl rfl rfl rfl rfl) ?_
      rintro xv w' ⟨hx, rfl⟩
      exact ⟨(fun cv hc => hx.trans (Option.some.inj (Option.some.inj hc))), ⟨g8, (fun h => (Sx.put_ne rfl _).trans (p5 h)), (by show Sx.Own _ _ _ _; rw [show Inv.add L 2 6 = false from f6]; exact H)⟩⟩
    · show Sx.StepAt _ _ _ _ _ _ _ 3
      intro L A w up hun hd F ⟨g8, p5, H⟩
      have f6 : L 6 = false := up 6 3 rfl hun
      rw [f6] at H
      have F := Sx.Fr.to F (kv' := [(41, .agg #[.int .u64 ((Wd.hi 0#128).toNat), .int .u64 ((Wd.lo 0#128).toNat), .int .u64 ((Wd.hi 0#128).toNat), .int .u64 ((Wd.lo 0#128).toNat)])]) ⟨rfl, trivial⟩
      refine Sx.step_on rfl (Sx.d_call (vs := [.agg #[.int .u64 ((Wd.hi 0#128).toNat), .int .u64 ((Wd.lo 0#128).toNat), .int .u64 ((Wd.hi 0#128).toNat), .int .u64 ((Wd.lo 0#128).toNat)]]) (v := .agg #[.int .u64 ((Wd.hi 0#128).toNat), .int .u64 ((Wd.lo 0#128).toNat), .int .u64 ((Wd.hi 0#128).toNat), .int .u64 ((Wd.lo 0#128).toNat)]) if_20 F H rfl rfl (own09_c 0#128 0#128 _)) ?_
      rintro xv w' ⟨hx, H⟩
      exact ⟨(fun cv hc => hx.trans (Option.some.inj (Option.some.inj hc))), ⟨g8, (fun h => (Sx.put_ne rfl _).trans (p5 h)), (by show Sx.Own _ _ _ _; rw [show Inv.add L 3 6 = false from f6]; exact H)⟩⟩
    · show Sx.StepAt _ _ _ _ _ _ _ 4
      intro L A w up hun hd F ⟨g8, p5, H⟩
      have f6 : L 6 = false := up 6 4 rfl hun
      rw [f6] at H
      have F := Sx.Fr.to F (kv' := [(40, .agg #[.int .u64 ((Wd.hi pa).toNat), .int .u64 ((Wd.lo pa).toNat), .int .u64 ((Wd.hi pc).toNat), .int .u64 ((Wd.lo pc).toNat)]), (42, .agg #[.int .u64 ((Wd.hi 0#128).toNat), .int .u64 ((Wd.lo 0#128).toNat), .int .u64 ((Wd.hi 0#128).toNat), .int .u64 ((Wd.lo 0#128).toNat)])]) ⟨rfl, rfl, trivial⟩
      refine Sx.step_on rfl (Sx.d_call (vs := [.agg #[.int .u64 ((Wd.hi pa).toNat), .int .u64 ((Wd.lo pa).toNat), .int .u64 ((Wd.hi pc).toNat), .int .u64 ((Wd.lo pc).toNat)], .agg #[.int .u64 ((Wd.hi 0#128).toNat), .int .u64 ((Wd.lo 0#128).toNat), .int .u64 ((Wd.hi 0#128).toNat), .int .u64 ((Wd.lo 0#128).toNat)]]) (v := .agg #[.int .u64 ((Wd.hi (0#128 * pa)).toNat), .int .u64 ((Wd.lo (0#128 * pa)).toNat), .int .u64 ((Wd.hi (0#128 * pc + 0#128)).toNat), .int .u64 ((Wd.lo (0#128 * pc + 0#128)).toNat)]) if_19 F H rfl rfl (rthen9_c pa pc 0#128 0#128 _)) ?_
      rintro xv w' ⟨hx, H⟩
      exact ⟨(fun cv hc => hx.trans (Option.some.inj (Option.some.inj hc))), ⟨g8, (fun h => (Sx.put_ne rfl _).trans (p5 h)), (by show Sx.Own _ _ _ _; rw [show Inv.add L 4 6 = false from f6]; exact H)⟩⟩
    · show Sx.StepAt _ _ _ _ _ _ _ 5
      intro L A w up hun hd F ⟨g8, p5, H⟩
      have f5 : L 5 = false := hun
      have f6 : L 6 = false := up 6 5 rfl hun
      rw [f5, f6] at H
      have F := Sx.Fr.to F (kv' := []) trivial
      refine Sx.step_on rfl (Sx.d_alloc_at H rfl 7 [.int .u64 ((Wd.hi 0#128).toNat), .int .u64 ((Wd.lo 0#128).toNat), .int .u64 ((Wd.hi 0#128).toNat), .int .u64 ((Wd.lo 0#128).toNat)] zero_37) ?_
      rintro xv w' ⟨g', hx, H⟩
      exact ⟨(fun cv hc => by have h := Option.some.inj hc; cases h), ⟨g', (fun _ => (Sx.put_same F (by decide) _).trans hx), (by show Sx.Own _ _ _ _; rw [show Inv.add L 5 6 = false from f6]; exact H)⟩⟩
    · show Sx.StepAt _ _ _ _ _ _ _ 6
      intro L A w up hun hd F ⟨g8, p5, H⟩
      have t5 : L 5 = true := hd 5 rfl
      have f6 : L 6 = false := hun
      rw [t5, f6] at H
      have F := Sx.Fr.to F (kv' := [(43, .agg #[.int .u64 ((Wd.hi (0#128 * pa)).toNat), .int .u64 ((Wd.lo (0#128 * pa)).toNat), .int .u64 ((Wd.hi (0#128 * pc + 0#128)).toNat), .int .u64 ((Wd.lo (0#128 * pc + 0#128)).toNat)])]) ⟨rfl, trivial⟩
      have F := Sx.Fr.add F (p5 t5)
      refine Sx.step_on rfl (Sx.d_store (i := 7) (xs := [.int .u64 ((Wd.hi (0#128 * pa)).toNat), .int .u64 ((Wd.lo (0#128 * pa)).toNat), .int .u64 ((Wd.hi (0#128 * pc + 0#128)).toNat), .int .u64 ((Wd.lo (0#128 * pc + 0#128)).toNat)]) (us := [.int .u64 ((Wd.hi (0#128 * pa)).toNat), .int .u64 ((Wd.lo (0#128 * pa)).toNat), .int .u64 ((Wd.hi (0#128 * pc + 0#128)).toNat), .int .u64 ((Wd.lo (0#128 * pc + 0#128)).toNat)]) sz_37 F H rfl rfl rfl rfl rfl rfl rfl (Nat.le_of_ble_eq_true rfl) rfl) ?_
      intro xv w' H
      exact ⟨(fun cv hc => by have h := Option.some.inj hc; cases h), ⟨g8, p5, (by show Sx.Own _ _ _ _; rw [show Inv.add L 6 5 = true from t5]; exact H)⟩⟩
  · intro L A w hL F ⟨g8, p5, H⟩
    have t5 : L 5 = true := hL 5 rfl
    have t6 : L 6 = true := hL 6 rfl
    rw [t5, t6] at H
    have F := Sx.Fr.add F (p5 t5)
    have F := Sx.Fr.to F (kv' := [(3, .pointer (some ⟨g1, 0, none⟩)), (4, .pointer (some ⟨g2, 0, none⟩)), (5, .pointer (some ⟨g3, 0, none⟩)), (6, .bool false), (7, .pointer (some ⟨g4, 0, none⟩)), (8, .int .i64 (Af.odde x)), (9, .pointer (some ⟨g5, 0, none⟩)), (10, .int .i64 (Af.odde x)), (11, .pointer (some ⟨g6, 0, none⟩)), (12, .int .i64 1), (14, .int .i64 1), (15, .pointer (some ⟨g8, 0, none⟩))]) ⟨rfl, rfl, rfl, rfl, rfl, rfl, rfl, rfl, rfl, rfl, rfl, rfl, trivial⟩
    refine hK8 _ _ ?_
    refine Sx.seq (fun K9 hK9 => ?_)
    refine Sx.seq (fun K10 hK10 => ?_)
    refine Sx.plain ?_
    refine Sx.sv F (Sx.d_move F (Or.inl rfl) rfl) (Sx.wanted_none rfl _) rfl (by decide) (fun A F => ?_)
    refine Sx.sv F (Sx.d_move F (Or.inl rfl) rfl) (Sx.wanted_none rfl _) rfl (by decide) (fun A F => ?_)
    refine Sx.sv F (Sx.d_bin (v := .bool false) F rfl rfl rfl (Sx.i_ne (by decide))) (Sx.wanted_none rfl _) rfl (by decide) (fun A F => ?_)
    refine Sx.sv F (Sx.d_move F (Or.inl rfl) rfl) (Sx.wanted_none rfl _) rfl (by decide) (fun A F => ?_)
    refine Sx.sv F (Sx.d_move F (Or.inl rfl) rfl) (Sx.wanted_on rfl (Sx.guard_known (d := 47) (b := false) F rfl rfl) rfl) rfl (by decide) (fun A F => ?_)
    refine Sx.sv F (Sx.d_bin (v := .bool true) F rfl rfl rfl (Sx.i_ne (by decide))) (Sx.wanted_on rfl (Sx.guard_known (d := 47) (b := false) F rfl rfl) rfl) rfl (by decide) (fun A F => ?_)
    refine Sx.sv F (Sx.d_move F (Or.inl rfl) rfl) (Sx.wanted_on rfl (Sx.guard_known (d := 47) (b := false) F rfl rfl) rfl) rfl (by decide) (fun A F => ?_)
    refine Sx.sv F (Sx.d_load (i := 1) (xs := [.int .u64 ((Wd.hi 0#128).toNat), .int .u64 ((Wd.lo 0#128).toNat), .int .u64 ((Wd.hi 0#128).toNat), .int .u64 ((Wd.lo 0#128).toNat)]) rw_26 F H rfl rfl rfl rfl rfl) (Sx.wanted_on rfl (Sx.guard_known (d := 50) (b := true) F rfl rfl) rfl) rfl (by decide) (fun A F => ?_)
    refine Sx.sv F (Sx.d_build (qs := #[]) (v := .agg #[.int .u64 ((Wd.hi 0#128).toNat), .int .u64 ((Wd.lo 0#128).toNat), .int .u64 ((Wd.hi 0#128).toNat), .int .u64 ((Wd.lo 0#128).toNat)]) F rfl rfl (by kernel_rfl)) (Sx.wanted_on rfl (Sx.guard_known (d := 50) (b := true) F rfl rfl) rfl) rfl (by decide) (fun A F => ?_)
    refine Sx.sv F (Sx.d_bin (v := .bool false) F rfl rfl rfl (Sx.i_neM (by rw [show Sx.eqbM 0#128 0#128 0#128 0#128 = true from Sx.eqbM_true rfl rfl]; rfl))) (Sx.wanted_on rfl (Sx.guard_known (d := 50) (b := true) F rfl rfl) rfl) rfl (by decide) (fun A F => ?_)
    refine Sx.sv F (Sx.d_pickT (v := .bool false) F rfl rfl rfl) (Sx.wanted_on rfl (Sx.guard_known (d := 47) (b := false) F rfl rfl) rfl) rfl (by decide) (fun A F => ?_)
    refine Sx.sv F (Sx.d_pickF (v := .bool false) F rfl rfl rfl) (Sx.wanted_none rfl _) rfl (by decide) (fun A F => ?_)
    refine Sx.sv F (Sx.d_move F (Or.inl rfl) rfl) (Sx.wanted_none rfl _) rfl (by decide) (fun A F => ?_)
    refine Sx.sv F (Sx.d_move F (Or.inl rfl) rfl) (Sx.wanted_on rfl (Sx.guard_known (d := 56) (b := false) F rfl rfl) rfl) rfl (by decide) (fun A F => ?_)
    refine Sx.sv F (Sx.d_bin (v := .bool false) F rfl rfl rfl (Sx.i_eq (by decide))) (Sx.wanted_on rfl (Sx.guard_known (d := 56) (b := false) F rfl rfl) rfl) rfl (by decide) (fun A F => ?_)
    refine Sx.sv F (Sx.d_move F (Or.inl rfl) rfl) (Sx.wanted_on rfl (Sx.guard_known (d := 56) (b := false) F rfl rfl) rfl) rfl (by decide) (fun A F => ?_)
    refine Sx.su F (Sx.wanted_off rfl (Sx.guard_known (d := 59) (b := false) F rfl rfl) rfl) rfl (by decide) (fun A F => ?_)
    refine Sx.su F (Sx.wanted_off rfl (Sx.guard_known (d := 59) (b := false) F rfl rfl) rfl) rfl (by decide) (fun A F => ?_)
    refine Sx.su F (Sx.wanted_off rfl (Sx.guard_known (d := 59) (b := false) F rfl rfl) rfl) rfl (by decide) (fun A F => ?_)
    refine Sx.su F (Sx.wanted_off rfl (Sx.guard_known (d := 59) (b := false) F rfl rfl) rfl) rfl (by decide) (fun A F => ?_)
    refine Sx.sv F (Sx.d_pickF (v := .bool false) F rfl rfl rfl) (Sx.wanted_on rfl (Sx.guard_known (d := 56) (b := false) F rfl rfl) rfl) rfl (by decide) (fun A F => ?_)
    refine Sx.sv F (Sx.d_pickF (v := .bool false) F rfl rfl rfl) (Sx.wanted_none rfl _) rfl (by decide) (fun A F => ?_)
    refine Sx.nil ?_
    refine hK10 _ _ ?_
    refine Sx.condF F rfl ?_
    refine wp_skip ?_
    refine hK9 _ _ ?_
    refine Sx.seq (fun K11 hK11 => ?_)
    have F := Sx.Fr.to F (kv' := [(3, .pointer (some ⟨g1, 0, none⟩)), (4, .pointer (some ⟨g2, 0, none⟩)), (5, .pointer (some ⟨g3, 0, none⟩)), (7, .pointer (some ⟨g4, 0, none⟩)), (8, .int .i64 (Af.odde x)), (9, .pointer (some ⟨g5, 0, none⟩)), (10, .int .i64 (Af.odde x)), (11, .pointer (some ⟨g6, 0, none⟩)), (12, .int .i64 1), (14, .int .i64 1), (15, .pointer (some ⟨g8, 0, none⟩)), (44, .int .i64 1), (45, .int .i64 1), (46, .bool false), (47, .bool false), (48, .int .i64 1), (49, .bool true), (50, .bool true), (51, .agg #[.int .u64 ((Wd.hi 0#128).toNat), .int .u64 ((Wd.lo 0#128).toNat), .int .u64 ((Wd.hi 0#128).toNat), .int .u64 ((Wd.lo 0#128).toNat)]), (52, .agg #[.int .u64 ((Wd.hi 0#128).toNat), .int .u64 ((Wd.lo 0#128).toNat), .int .u64 ((Wd.hi 0#128).toNat), .int .u64 ((Wd.lo 0#128).toNat)]), (53, .bool false), (54, .bool false), (55, .bool false), (56, .bool false), (57, .int .i64 1), (58, .bool false), (59, .bool false), (60, undef), (61, undef), (62, undef), (63, undef), (64, .bool false), (65, .bool false)]) ⟨rfl, rfl, rfl, rfl, rfl, rfl, rfl, rfl, rfl, rfl, rfl, rfl, rfl, rfl, rfl, rfl, rfl, rfl, rfl, rfl, rfl, rfl, rfl, rfl, rfl, rfl, rfl, rfl, rfl, rfl, rfl, rfl, rfl, trivial⟩
    refine Sx.drawn F (by kernel_rfl) (by kernel_rfl) (by kernel_rfl) [some (.agg #[.int .u64 ((Wd.hi pa).toNat), .int .u64 ((Wd.lo pa).toNat), .int .u64 ((Wd.hi pc).toNat), .int .u64 ((Wd.lo pc).toNat)]), some (.agg #[.int .u64 ((Wd.hi x).toNat), .int .u64 ((Wd.lo x).toNat)]), some (.agg #[.int .u64 ((Wd.hi (pa * x + pc)).toNat), .int .u64 ((Wd.lo (pa * x + pc)).toNat)]), some (.agg #[.int .u64 ((Wd.hi pa).toNat), .int .u64 ((Wd.lo pa).toNat), .int .u64 ((Wd.hi pc).toNat), .int .u64 ((Wd.lo pc).toNat)]), some (.agg #[.int .u64 ((Wd.hi pa).toNat), .int .u64 ((Wd.lo pa).toNat), .int .u64 ((Wd.hi pc).toNat), .int .u64 ((Wd.lo pc).toNat)]), some (.agg #[.int .u64 ((Wd.hi x).toNat), .int .u64 ((Wd.lo x).toNat)]), some (.agg #[.int .u64 ((Wd.hi (pa * x + pc)).toNat), .int .u64 ((Wd.lo (pa * x + pc)).toNat)]), some (.bool true), some (.bool true), some (.agg #[.int .u64 ((Wd.hi pa).toNat), .int .u64 ((Wd.lo pa).toNat), .int .u64 ((Wd.hi pc).toNat), .int .u64 ((Wd.lo pc).toNat)]), some (.agg #[.int .u64 ((Wd.hi qa).toNat), .int .u64 ((Wd.lo qa).toNat), .int .u64 ((Wd.hi qc).toNat), .int .u64 ((Wd.lo qc).toNat)]), some (.agg #[.int .u64 ((Wd.hi (qa * pa)).toNat), .int .u64 ((Wd.lo (qa * pa)).toNat), .int .u64 ((Wd.hi (qa * pc + qc)).toNat), .int .u64 ((Wd.lo (qa * pc + qc)).toNat)]), some (.agg #[.int .u64 ((Wd.hi (qa * pa)).toNat), .int .u64 ((Wd.lo (qa * pa)).toNat), .int .u64 ((Wd.hi (qa * pc + qc)).toNat), .int .u64 ((Wd.lo (qa * pc + qc)).toNat)]), some (.agg #[.int .u64 ((Wd.hi pa).toNat), .int .u64 ((Wd.lo pa).toNat), .int .u64 ((Wd.hi pc).toNat), .int .u64 ((Wd.lo pc).toNat)]), some (.agg #[.int .u64 ((Wd.hi pa).toNat), .int .u64 ((Wd.lo pa).toNat), .int .u64 ((Wd.hi pc).toNat), .int .u64 ((Wd.lo pc).toNat)]), some (.agg #[.int .u64 ((Wd.hi qa).toNat), .int .u64 ((Wd.lo qa).toNat), .int .u64 ((Wd.hi qc).toNat), .int .u64 ((Wd.lo qc).toNat)]), some (.agg #[.int .u64 ((Wd.hi qa).toNat), .int .u64 ((Wd.lo qa).toNat), .int .u64 ((Wd.hi qc).toNat), .int .u64 ((Wd.lo qc).toNat)]), some (.agg #[.int .u64 ((Wd.hi (qa * pa)).toNat), .int .u64 ((Wd.lo (qa * pa)).toNat), .int .u64 ((Wd.hi (qa * pc + qc)).toNat), .int .u64 ((Wd.lo (qa * pc + qc)).toNat)]), some (.bool true), some (.bool true), some (.bool true), some (.agg #[.int .u64 ((Wd.hi pa).toNat), .int .u64 ((Wd.lo pa).toNat), .int .u64 ((Wd.hi pc).toNat), .int .u64 ((Wd.lo pc).toNat)]), some (.agg #[.int .u64 ((Wd.hi x).toNat), .int .u64 ((Wd.lo x).toNat)]), some (.agg #[.int .u64 ((Wd.hi ((Af.pow ⟨pa, pc⟩ (x).toNat).a)).toNat), .int .u64 ((Wd.lo ((Af.pow ⟨pa, pc⟩ (x).toNat).a)).toNat), .int .u64 ((Wd.hi ((Af.pow ⟨pa, pc⟩ (x).toNat).c)).toNat), .int .u64 ((Wd.lo ((Af.pow ⟨pa, pc⟩ (x).toNat).c)).toNat)]), some (.agg #[.int .u64 ((Wd.hi ((Af.pow ⟨pa, pc⟩ (x).toNat).a)).toNat), .int .u64 ((Wd.lo ((Af.pow ⟨pa, pc⟩ (x).toNat).a)).toNat), .int .u64 ((Wd.hi ((Af.pow ⟨pa, pc⟩ (x).toNat).c)).toNat), .int .u64 ((Wd.lo ((Af.pow ⟨pa, pc⟩ (x).toNat).c)).toNat)]), some (.agg #[.int .u64 ((Wd.hi pa).toNat), .int .u64 ((Wd.lo pa).toNat), .int .u64 ((Wd.hi pc).toNat), .int .u64 ((Wd.lo pc).toNat)]), some (.agg #[.int .u64 ((Wd.hi pa).toNat), .int .u64 ((Wd.lo pa).toNat), .int .u64 ((Wd.hi pc).toNat), .int .u64 ((Wd.lo pc).toNat)]), some (.agg #[.int .u64 ((Wd.hi x).toNat), .int .u64 ((Wd.lo x).toNat)]), some (.agg #[.int .u64 ((Wd.hi ((Af.pow ⟨pa, pc⟩ (x).toNat).a)).toNat), .int .u64 ((Wd.lo ((Af.pow ⟨pa, pc⟩ (x).toNat).a)).toNat), .int .u64 ((Wd.hi ((Af.pow ⟨pa, pc⟩ (x).toNat).c)).toNat), .int .u64 ((Wd.lo ((Af.pow ⟨pa, pc⟩ (x).toNat).c)).toNat)]), some (.bool true), some (.bool true), some (.bool true), some (.agg #[.int .u64 ((Wd.hi (Af.oddv x)).toNat), .int .u64 ((Wd.lo (Af.oddv x)).toNat)]), some (.agg #[.int .u64 ((Wd.hi (Af.oddv x)).toNat), .int .u64 ((Wd.lo (Af.oddv x)).toNat)]), some (.bool true), some (.bool true), some (.bool true), some (.int .i64 (Af.odde x)), some (.int .i64 (Af.odde x)), some (.bool true), some (.bool true), some (.bool true)] (fun L A w => Sx.Own w0 w [(true, g7, [.int .u64 ((Wd.hi 0#128).toNat), .int .u64 ((Wd.lo 0#128).toNat)]), (true, g6, [.int .u64 ((Wd.hi 0#128).toNat), .int .u64 ((Wd.lo 0#128).toNat), .int .u64 ((Wd.hi 0#128).toNat), .int .u64 ((Wd.lo 0#128).toNat)]), (true, g5, [.int .u64 ((Wd.hi (Af.oddv x)).toNat), .int .u64 ((Wd.lo (Af.oddv x)).toNat)]), (true, g4, [.int .u64 ((Wd.hi (Af.oddv x)).toNat), .int .u64 ((Wd.lo (Af.oddv x)).toNat)]), (true, g3, [.int .u64 ((Wd.hi x).toNat), .int .u64 ((Wd.lo x).toNat)]), (true, g2, [.int .u64 ((Wd.hi qa).toNat), .int .u64 ((Wd.lo qa).toNat), .int .u64 ((Wd.hi qc).toNat), .int .u64 ((Wd.lo qc).toNat)]), (true, g1, [.int .u64 ((Wd.hi pa).toNat), .int .u64 ((Wd.lo pa).toNat), .int .u64 ((Wd.hi pc).toNat), .int .u64 ((Wd.lo pc).toNat)]), (true, g8, [.int .u64 ((Wd.hi (0#128 * pa)).toNat), .int .u64 ((Wd.lo (0#128 * pa)).toNat), .int .u64 ((Wd.hi (0#128 * pc + 0#128)).toNat), .int .u64 ((Wd.lo (0#128 * pc + 0#128)).toNat)])] []) H.drew ?_ ?_
    · refine ⟨?_, ?_, ?_, ?_, ?_, ?_, ?_, ?_, ?_, ?_, ?_, ?_, ?_, ?_, ?_, ?_, ?_, ?_, ?_, ?_, ?_, ?_, ?_, ?_, ?_, ?_, ?_, ?_, ?_, ?_, ?_, ?_, ?_, ?_, ?_, ?_, ?_, ?_, ?_, ?_, ?_, ?_, trivial⟩
      · show Sx.StepAt _ _ _ _ _ _ _ 0
        intro L A w up hun hd F H
        have F := Sx.Fr.to F (kv' := [(3, .pointer (some ⟨g1, 0, none⟩))]) ⟨rfl, trivial⟩
        refine Sx.step_on rfl (Sx.d_load (i := 6) (xs := [.int .u64 ((Wd.hi pa).toNat), .int .u64 ((Wd.lo pa).toNat), .int .u64 ((Wd.hi pc).toNat), .int .u64 ((Wd.lo pc).toNat)]) rw_26 F H rfl rfl rfl rfl rfl) ?_
        rintro xv w' ⟨hx, rfl⟩
        exact ⟨(fun cv hc => hx.trans (Option.some.inj (Option.some.inj hc))), H⟩
      · show Sx.StepAt _ _ _ _ _ _ _ 1
        intro L A w up hun hd F H
        have F := Sx.Fr.to F (kv' := [(5, .pointer (some ⟨g3, 0, none⟩))]) ⟨rfl, trivial⟩
        refine Sx.step_on rfl (Sx.d_load (i := 4) (xs := [.int .u64 ((Wd.hi x).toNat), .int .u64 ((Wd.lo x).toNat)]) rw_24 F H rfl rfl rfl rfl rfl) ?_
        rintro xv w' ⟨hx, rfl⟩
        exact ⟨(fun cv hc => hx.trans (Option.some.inj (Option.some.inj hc))), H⟩
      · show Sx.StepAt _ _ _ _ _ _ _ 2
        intro L A w up hun hd F H
        have F := Sx.Fr.to F (kv' := [(66, .agg #[.int .u64 ((Wd.hi pa).toNat), .int .u64 ((Wd.lo pa).toNat), .int .u64 ((Wd.hi pc).toNat), .int .u64 ((Wd.lo pc).toNat)]), (67, .agg #[.int .u64 ((Wd.hi x).toNat), .int .u64 ((Wd.lo x).toNat)])]) ⟨rfl, rfl, trivial⟩
        refine Sx.step_on rfl (Sx.d_call (vs := [.agg #[.int .u64 ((Wd.hi pa).toNat), .int .u64 ((Wd.lo pa).toNat), .int .u64 ((Wd.hi pc).toNat), .int .u64 ((Wd.lo pc).toNat)], .agg #[.int .u64 ((Wd.hi x).toNat), .int .u64 ((Wd.lo x).toNat)]]) (v := .agg #[.int .u64 ((Wd.hi (pa * x + pc)).toNat), .int .u64 ((Wd.lo (pa * x + pc)).toNat)]) if_21 F H rfl rfl (aat_c pa pc x _)) ?_
        rintro xv w' ⟨hx, H⟩
        exact ⟨(fun cv hc => hx.trans (Option.some.inj (Option.some.inj hc))), H⟩
      · show Sx.StepAt _ _ _ _ _ _ _ 3
        intro L A w up hun hd F H
        have F := Sx.Fr.to F (kv' := [(3, .pointer (some ⟨g1, 0, none⟩))]) ⟨rfl, trivial⟩
        refine Sx.step_on rfl (Sx.d_load (i := 6) (xs := [.int .u64 ((Wd.hi pa).toNat), .int .u64 ((Wd.lo pa).toNat), .int .u64 ((Wd.hi pc).toNat), .int .u64 ((Wd.lo pc).toNat)]) rw_26 F H rfl rfl rfl rfl rfl) ?_
        rintro xv w' ⟨hx, rfl⟩
        exact ⟨(fun cv hc => hx.trans (Option.some.inj (Option.some.inj hc))), H⟩
      · show Sx.StepAt _ _ _ _ _ _ _ 4
        intro L A w up hun hd F H
        have F := Sx.Fr.to F (kv' := [(69, .agg #[.int .u64 ((Wd.hi pa).toNat), .int .u64 ((Wd.lo pa).toNat), .int .u64 ((Wd.hi pc).toNat), .int .u64 ((Wd.lo pc).toNat)])]) ⟨rfl, trivial⟩
        refine Sx.step_on rfl (Sx.d_call (vs := [.agg #[.int .u64 ((Wd.hi pa).toNat), .int .u64 ((Wd.lo pa).toNat), .int .u64 ((Wd.hi pc).toNat), .int .u64 ((Wd.lo pc).toNat)]]) (v := .agg #[.int .u64 ((Wd.hi pa).toNat), .int .u64 ((Wd.lo pa).toNat), .int .u64 ((Wd.hi pc).toNat), .int .u64 ((Wd.lo pc).toNat)]) if_20 F H rfl rfl (own09_c pa pc _)) ?_
        rintro xv w' ⟨hx, H⟩
        exact ⟨(fun cv hc => hx.trans (Option.some.inj (Option.some.inj hc))), H⟩
      · show Sx.StepAt _ _ _ _ _ _ _ 5
        intro L A w up hun hd F H
        have F := Sx.Fr.to F (kv' := [(5, .pointer (some ⟨g3, 0, none⟩))]) ⟨rfl, trivial⟩
        refine Sx.step_on rfl (Sx.d_load (i := 4) (xs := [.int .u64 ((Wd.hi x).toNat), .int .u64 ((Wd.lo x).toNat)]) rw_24 F H rfl rfl rfl rfl rfl) ?_
        rintro xv w' ⟨hx, rfl⟩
        exact ⟨(fun cv hc => hx.trans (Option.some.inj (Option.some.inj hc))), H⟩
      · show Sx.StepAt _ _ _ _ _ _ _ 6
        intro L A w up hun hd F H
        have F := Sx.Fr.to F (kv' := [(70, .agg #[.int .u64 ((Wd.hi pa).toNat), .int .u64 ((Wd.lo pa).toNat), .int .u64 ((Wd.hi pc).toNat), .int .u64 ((Wd.lo pc).toNat)]), (71, .agg #[.int .u64 ((Wd.hi x).toNat), .int .u64 ((Wd.lo x).toNat)])]) ⟨rfl, rfl, trivial⟩
        refine Sx.step_on rfl (Sx.d_call (vs := [.agg #[.int .u64 ((Wd.hi pa).toNat), .int .u64 ((Wd.lo pa).toNat), .int .u64 ((Wd.hi pc).toNat), .int .u64 ((Wd.lo pc).toNat)], .agg #[.int .u64 ((Wd.hi x).toNat), .int .u64 ((Wd.lo x).toNat)]]) (v := .agg #[.int .u64 ((Wd.hi (pa * x + pc)).toNat), .int .u64 ((Wd.lo (pa * x + pc)).toNat)]) if_22 F H rfl rfl (rat9_c pa pc x _)) ?_
        rintro xv w' ⟨hx, H⟩
        exact ⟨(fun cv hc => hx.trans (Option.some.inj (Option.some.inj hc))), H⟩
      · show Sx.StepAt _ _ _ _ _ _ _ 7
        intro L A w up hun hd F H
        have F := Sx.Fr.to F (kv' := [(68, .agg #[.int .u64 ((Wd.hi (pa * x + pc)).toNat), .int .u64 ((Wd.lo (pa * x + pc)).toNat)]), (72, .agg #[.int .u64 ((Wd.hi (pa * x + pc)).toNat), .int .u64 ((Wd.lo (pa * x + pc)).toNat)])]) ⟨rfl, rfl, trivial⟩
        refine Sx.step_on rfl (Sx.d_bin (v := .bool true) F rfl rfl rfl (Sx.i_eqU (eqb_self _))) ?_
        rintro xv w' ⟨hx, rfl⟩
        exact ⟨(fun cv hc => hx.trans (Option.some.inj (Option.some.inj hc))), H⟩
      · show Sx.StepAt _ _ _ _ _ _ _ 8
        intro L A w up hun hd F H
        have F := Sx.Fr.to F (kv' := [(73, .bool true)]) ⟨rfl, trivial⟩
        refine Sx.step_on rfl (Sx.d_move F (Or.inl rfl) rfl) ?_
        rintro xv w' ⟨hx, rfl⟩
        exact ⟨(fun cv hc => hx.trans (Option.some.inj (Option.some.inj hc))), H⟩
      · show Sx.StepAt _ _ _ _ _ _ _ 9
        intro L A w up hun hd F H
        have F := Sx.Fr.to F (kv' := [(3, .pointer (some ⟨g1, 0, none⟩)), (74, .bool true)]) ⟨rfl, rfl, trivial⟩
        refine Sx.step_ong rfl (Sx.guard_known (d := 74) (b := true) F rfl rfl) rfl (Sx.d_load (i := 6) (xs := [.int .u64 ((Wd.hi pa).toNat), .int .u64 ((Wd.lo pa).toNat), .int .u64 ((Wd.hi pc).toNat), .int .u64 ((Wd.lo pc).toNat)]) rw_26 F H rfl rfl rfl rfl rfl) ?_
        rintro xv w' ⟨hx, rfl⟩
        exact ⟨(fun cv hc => hx.trans (Option.some.inj (Option.some.inj hc))), H⟩
      · show Sx.StepAt _ _ _ _ _ _ _ 10
        intro L A w up hun hd F H
        have F := Sx.Fr.to F (kv' := [(4, .pointer (some ⟨g2, 0, none⟩)), (74, .bool true)]) ⟨rfl, rfl, trivial⟩
        refine Sx.step_ong rfl (Sx.guard_known (d := 74) (b := true) F rfl rfl) rfl (Sx.d_load (i := 5) (xs := [.int .u64 ((Wd.hi qa).toNat), .int .u64 ((Wd.lo qa).toNat), .int .u64 ((Wd.hi qc).toNat), .int .u64 ((Wd.lo qc).toNat)]) rw_26 F H rfl rfl rfl rfl rfl) ?_
        rintro xv w' ⟨hx, rfl⟩
        exact ⟨(fun cv hc => hx.trans (Option.some.inj (Option.some.inj hc))), H⟩
      · show Sx.StepAt _ _ _ _ _ _ _ 11
        intro L A w up hun hd F H
        have F := Sx.Fr.to F (kv' := [(75, .agg #[.int .u64 ((Wd.hi pa).toNat), .int .u64 ((Wd.lo pa).toNat), .int .u64 ((Wd.hi pc).toNat), .int .u64 ((Wd.lo pc).toNat)]), (76, .agg #[.int .u64 ((Wd.hi qa).toNat), .int .u64 ((Wd.lo qa).toNat), .int .u64 ((Wd.hi qc).toNat), .int .u64 ((Wd.lo qc).toNat)]), (74, .bool true)]) ⟨rfl, rfl, rfl, trivial⟩
        refine Sx.step_ong rfl (Sx.guard_known (d := 74) (b := true) F rfl rfl) rfl (Sx.d_call (vs := [.agg #[.int .u64 ((Wd.hi pa).toNat), .int .u64 ((Wd.lo pa).toNat), .int .u64 ((Wd.hi pc).toNat), .int .u64 ((Wd.lo pc).toNat)], .agg #[.int .u64 ((Wd.hi qa).toNat), .int .u64 ((Wd.lo qa).toNat), .int .u64 ((Wd.hi qc).toNat), .int .u64 ((Wd.lo qc).toNat)]]) (v := .agg #[.int .u64 ((Wd.hi (qa * pa)).toNat), .int .u64 ((Wd.lo (qa * pa)).toNat), .int .u64 ((Wd.hi (qa * pc + qc)).toNat), .int .u64 ((Wd.lo (qa * pc + qc)).toNat)]) if_23 F H rfl rfl (athen_c pa pc qa qc _)) ?_
        rintro xv w' ⟨hx, H⟩
        exact ⟨(fun cv hc => hx.trans (Option.some.inj (Option.some.inj hc))), H⟩
      · show Sx.StepAt _ _ _ _ _ _ _ 12
        intro L A w up hun hd F H
        have F := Sx.Fr.to F (kv' := [(77, .agg #[.int .u64 ((Wd.hi (qa * pa)).toNat), .int .u64 ((Wd.lo (qa * pa)).toNat), .int .u64 ((Wd.hi (qa * pc + qc)).toNat), .int .u64 ((Wd.lo (qa * pc + qc)).toNat)]), (74, .bool true)]) ⟨rfl, rfl, trivial⟩
        refine Sx.step_ong rfl (Sx.guard_known (d := 74) (b := true) F rfl rfl) rfl (Sx.d_call (vs := [.agg #[.int .u64 ((Wd.hi (qa * pa)).toNat), .int .u64 ((Wd.lo (qa * pa)).toNat), .int .u64 ((Wd.hi (qa * pc + qc)).toNat), .int .u64 ((Wd.lo (qa * pc + qc)).toNat)]]) (v := .agg #[.int .u64 ((Wd.hi (qa * pa)).toNat), .int .u64 ((Wd.lo (qa * pa)).toNat), .int .u64 ((Wd.hi (qa * pc + qc)).toNat), .int .u64 ((Wd.lo (qa * pc + qc)).toNat)]) if_20 F H rfl rfl (own09_c (qa * pa) (qa * pc + qc) _)) ?_
        rintro xv w' ⟨hx, H⟩
        exact ⟨(fun cv hc => hx.trans (Option.some.inj (Option.some.inj hc))), H⟩
      · show Sx.StepAt _ _ _ _ _ _ _ 13
        intro L A w up hun hd F H
        have F := Sx.Fr.to F (kv' := [(3, .pointer (some ⟨g1, 0, none⟩)), (74, .bool true)]) ⟨rfl, rfl, trivial⟩
        refine Sx.step_ong rfl (Sx.guard_known (d := 74) (b := true) F rfl rfl) rfl (Sx.d_load (i := 6) (xs := [.int .u64 ((Wd.hi pa).toNat), .int .u64 ((Wd.lo pa).toNat), .int .u64 ((Wd.hi pc).toNat), .int .u64 ((Wd.lo pc).toNat)]) rw_26 F H rfl rfl rfl rfl rfl) ?_
        rintro xv w' ⟨hx, rfl⟩
        exact ⟨(fun cv hc => hx.trans (Option.some.inj (Option.some.inj hc))), H⟩
      · show Sx.StepAt _ _ _ _ _ _ _ 14
        intro L A w up hun hd F H
        have F := Sx.Fr.to F (kv' := [(79, .agg #[.int .u64 ((Wd.hi pa).toNat), .int .u64 ((Wd.lo pa).toNat), .int .u64 ((Wd.hi pc).toNat), .int .u64 ((Wd.lo pc).toNat)]), (74, .bool true)]) ⟨rfl, rfl, trivial⟩
        refine Sx.step_ong rfl (Sx.guard_known (d := 74) (b := true) F rfl rfl) rfl (Sx.d_call (vs := [.agg #[.int .u64 ((Wd.hi pa).toNat), .int .u64 ((Wd.lo pa).toNat), .int .u64 ((Wd.hi pc).toNat), .int .u64 ((Wd.lo pc).toNat)]]) (v := .agg #[.int .u64 ((Wd.hi pa).toNat), .int .u64 ((Wd.lo pa).toNat), .int .u64 ((Wd.hi pc).toNat), .int .u64 ((Wd.lo pc).toNat)]) if_20 F H rfl rfl (own09_c pa pc _)) ?_
        rintro xv w' ⟨hx, H⟩
        exact ⟨(fun cv hc => hx.trans (Option.some.inj (Option.some.inj hc))), H⟩
      · show Sx.StepAt _ _ _ _ _ _ _ 15
        intro L A w up hun hd F H
        have F := Sx.Fr.to F (kv' := [(4, .pointer (some ⟨g2, 0, none⟩)), (74, .bool true)]) ⟨rfl, rfl, trivial⟩
        refine Sx.step_ong rfl (Sx.guard_known (d := 74) (b := true) F rfl rfl) rfl (Sx.d_load (i := 5) (xs := [.int .u64 ((Wd.hi qa).toNat), .int .u64 ((Wd.lo qa).toNat), .int .u64 ((Wd.hi qc).toNat), .int .u64 ((Wd.lo qc).toNat)]) rw_26 F H rfl rfl rfl rfl rfl) ?_
        rintro xv w' ⟨hx, rfl⟩
        exact ⟨(fun cv hc => hx.trans (Option.some.inj (Option.some.inj hc))), H⟩
      · show Sx.StepAt _ _ _ _ _ _ _ 16
        intro L A w up hun hd F H
        have F := Sx.Fr.to F (kv' := [(81, .agg #[.int .u64 ((Wd.hi qa).toNat), .int .u64 ((Wd.lo qa).toNat), .int .u64 ((Wd.hi qc).toNat), .int .u64 ((Wd.lo qc).toNat)]), (74, .bool true)]) ⟨rfl, rfl, trivial⟩
        refine Sx.step_ong rfl (Sx.guard_known (d := 74) (b := true) F rfl rfl) rfl (Sx.d_call (vs := [.agg #[.int .u64 ((Wd.hi qa).toNat), .int .u64 ((Wd.lo qa).toNat), .int .u64 ((Wd.hi qc).toNat), .int .u64 ((Wd.lo qc).toNat)]]) (v := .agg #[.int .u64 ((Wd.hi qa).toNat), .int .u64 ((Wd.lo qa).toNat), .int .u64 ((Wd.hi qc).toNat), .int .u64 ((Wd.lo qc).toNat)]) if_20 F H rfl rfl (own09_c qa qc _)) ?_
        rintro xv w' ⟨hx, H⟩
        exact ⟨(fun cv hc => hx.trans (Option.some.inj (Option.some.inj hc))), H⟩
      · show Sx.StepAt _ _ _ _ _ _ _ 17
        intro L A w up hun hd F H
        have F := Sx.Fr.to F (kv' := [(80, .agg #[.int .u64 ((Wd.hi pa).toNat), .int .u64 ((Wd.lo pa).toNat), .int .u64 ((Wd.hi pc).toNat), .int .u64 ((Wd.lo pc).toNat)]), (82, .agg #[.int .u64 ((Wd.hi qa).toNat), .int .u64 ((Wd.lo qa).toNat), .int .u64 ((Wd.hi qc).toNat), .int .u64 ((Wd.lo qc).toNat)]), (74, .bool true)]) ⟨rfl, rfl, rfl, trivial⟩
        refine Sx.step_ong rfl (Sx.guard_known (d := 74) (b := true) F rfl rfl) rfl (Sx.d_call (vs := [.agg #[.int .u64 ((Wd.hi pa).toNat), .int .u64 ((Wd.lo pa).toNat), .int .u64 ((Wd.hi pc).toNat), .int .u64 ((Wd.lo pc).toNat)], .agg #[.int .u64 ((Wd.hi qa).toNat), .int .u64 ((Wd.lo qa).toNat), .int .u64 ((Wd.hi qc).toNat), .int .u64 ((Wd.lo qc).toNat)]]) (v := .agg #[.int .u64 ((Wd.hi (qa * pa)).toNat), .int .u64 ((Wd.lo (qa * pa)).toNat), .int .u64 ((Wd.hi (qa * pc + qc)).toNat), .int .u64 ((Wd.lo (qa * pc + qc)).toNat)]) if_19 F H rfl rfl (rthen9_c pa pc qa qc _)) ?_
        rintro xv w' ⟨hx, H⟩
        exact ⟨(fun cv hc => hx.trans (Option.some.inj (Option.some.inj hc))), H⟩
      · show Sx.StepAt _ _ _ _ _ _ _ 18
        intro L A w up hun hd F H
        have F := Sx.Fr.to F (kv' := [(78, .agg #[.int .u64 ((Wd.hi (qa * pa)).toNat), .int .u64 ((Wd.lo (qa * pa)).toNat), .int .u64 ((Wd.hi (qa * pc + qc)).toNat), .int .u64 ((Wd.lo (qa * pc + qc)).toNat)]), (83, .agg #[.int .u64 ((Wd.hi (qa * pa)).toNat), .int .u64 ((Wd.lo (qa * pa)).toNat), .int .u64 ((Wd.hi (qa * pc + qc)).toNat), .int .u64 ((Wd.lo (qa * pc + qc)).toNat)]), (74, .bool true)]) ⟨rfl, rfl, rfl, trivial⟩
        refine Sx.step_ong rfl (Sx.guard_known (d := 74) (b := true) F rfl rfl) rfl (Sx.d_bin (v := .bool true) F rfl rfl rfl (Sx.i_eqN (Sx.eqbM_true rfl rfl))) ?_
        rintro xv w' ⟨hx, rfl⟩
        exact ⟨(fun cv hc => hx.trans (Option.some.inj (Option.some.inj hc))), H⟩
      · show Sx.StepAt _ _ _ _ _ _ _ 19
        intro L A w up hun hd F H
        have F := Sx.Fr.to F (kv' := [(74, .bool true), (84, .bool true)]) ⟨rfl, rfl, trivial⟩
        refine Sx.step_on rfl (Sx.d_pickT (v := .bool true) F rfl rfl rfl) ?_
        rintro xv w' ⟨hx, rfl⟩
        exact ⟨(fun cv hc => hx.trans (Option.some.inj (Option.some.inj hc))), H⟩
      · show Sx.StepAt _ _ _ _ _ _ _ 20
        intro L A w up hun hd F H
        have F := Sx.Fr.to F (kv' := [(85, .bool true)]) ⟨rfl, trivial⟩
        refine Sx.step_on rfl (Sx.d_move F (Or.inl rfl) rfl) ?_
        rintro xv w' ⟨hx, rfl⟩
        exact ⟨(fun cv hc => hx.trans (Option.some.inj (Option.some.inj hc))), H⟩
      · show Sx.StepAt _ _ _ _ _ _ _ 21
        intro L A w up hun hd F H
        have F := Sx.Fr.to F (kv' := [(3, .pointer (some ⟨g1, 0, none⟩)), (86, .bool true)]) ⟨rfl, rfl, trivial⟩
        refine Sx.step_ong rfl (Sx.guard_known (d := 86) (b := true) F rfl rfl) rfl (Sx.d_load (i := 6) (xs := [.int .u64 ((Wd.hi pa).toNat), .int .u64 ((Wd.lo pa).toNat), .int .u64 ((Wd.hi pc).toNat), .int .u64 ((Wd.lo pc).toNat)]) rw_26 F H rfl rfl rfl rfl rfl) ?_
        rintro xv w' ⟨hx, rfl⟩
        exact ⟨(fun cv hc => hx.trans (Option.some.inj (Option.some.inj hc))), H⟩
      · show Sx.StepAt _ _ _ _ _ _ _ 22
        intro L A w up hun hd F H
        have F := Sx.Fr.to F (kv' := [(5, .pointer (some ⟨g3, 0, none⟩)), (86, .bool true)]) ⟨rfl, rfl, trivial⟩
        refine Sx.step_ong rfl (Sx.guard_known (d := 86) (b := true) F rfl rfl) rfl (Sx.d_load (i := 4) (xs := [.int .u64 ((Wd.hi x).toNat), .int .u64 ((Wd.lo x).toNat)]) rw_24 F H rfl rfl rfl rfl rfl) ?_
        rintro xv w' ⟨hx, rfl⟩
        exact ⟨(fun cv hc => hx.trans (Option.some.inj (Option.some.inj hc))), H⟩
      · show Sx.StepAt _ _ _ _ _ _ _ 23
        intro L A w up hun hd F H
        have F := Sx.Fr.to F (kv' := [(87, .agg #[.int .u64 ((Wd.hi pa).toNat), .int .u64 ((Wd.lo pa).toNat), .int .u64 ((Wd.hi pc).toNat), .int .u64 ((Wd.lo pc).toNat)]), (88, .agg #[.int .u64 ((Wd.hi x).toNat), .int .u64 ((Wd.lo x).toNat)]), (86, .bool true)]) ⟨rfl, rfl, rfl, trivial⟩
        refine Sx.step_ong rfl (Sx.guard_known (d := 86) (b := true) F rfl rfl) rfl (Sx.d_call (vs := [.agg #[.int .u64 ((Wd.hi pa).toNat), .int .u64 ((Wd.lo pa).toNat), .int .u64 ((Wd.hi pc).toNat), .int .u64 ((Wd.lo pc).toNat)], .agg #[.int .u64 ((Wd.hi x).toNat), .int .u64 ((Wd.lo x).toNat)]]) (v := .agg #[.int .u64 ((Wd.hi ((Af.pow ⟨pa, pc⟩ (x).toNat).a)).toNat), .int .u64 ((Wd.lo ((Af.pow ⟨pa, pc⟩ (x).toNat).a)).toNat), .int .u64 ((Wd.hi ((Af.pow ⟨pa, pc⟩ (x).toNat).c)).toNat), .int .u64 ((Wd.lo ((Af.pow ⟨pa, pc⟩ (x).toNat).c)).toNat)]) if_24 F H rfl rfl (apow_c pa pc x _)) ?_
        rintro xv w' ⟨hx, H⟩
        exact ⟨(fun cv hc => hx.trans (Option.some.inj (Option.some.inj hc))), H⟩
      · show Sx.StepAt _ _ _ _ _ _ _ 24
        intro L A w up hun hd F H
        have F := Sx.Fr.to F (kv' := [(89, .agg #[.int .u64 ((Wd.hi ((Af.pow ⟨pa, pc⟩ (x).toNat).a)).toNat), .int .u64 ((Wd.lo ((Af.pow ⟨pa, pc⟩ (x).toNat).a)).toNat), .int .u64 ((Wd.hi ((Af.pow ⟨pa, pc⟩ (x).toNat).c)).toNat), .int .u64 ((Wd.lo ((Af.pow ⟨pa, pc⟩ (x).toNat).c)).toNat)]), (86, .bool true)]) ⟨rfl, rfl, trivial⟩
        refine Sx.step_ong rfl (Sx.guard_known (d := 86) (b := true) F rfl rfl) rfl (Sx.d_call (vs := [.agg #[.int .u64 ((Wd.hi ((Af.pow ⟨pa, pc⟩ (x).toNat).a)).toNat), .int .u64 ((Wd.lo ((Af.pow ⟨pa, pc⟩ (x).toNat).a)).toNat), .int .u64 ((Wd.hi ((Af.pow ⟨pa, pc⟩ (x).toNat).c)).toNat), .int .u64 ((Wd.lo ((Af.pow ⟨pa, pc⟩ (x).toNat).c)).toNat)]]) (v := .agg #[.int .u64 ((Wd.hi ((Af.pow ⟨pa, pc⟩ (x).toNat).a)).toNat), .int .u64 ((Wd.lo ((Af.pow ⟨pa, pc⟩ (x).toNat).a)).toNat), .int .u64 ((Wd.hi ((Af.pow ⟨pa, pc⟩ (x).toNat).c)).toNat), .int .u64 ((Wd.lo ((Af.pow ⟨pa, pc⟩ (x).toNat).c)).toNat)]) if_20 F H rfl rfl (own09_c ((Af.pow ⟨pa, pc⟩ (x).toNat).a) ((Af.pow ⟨pa, pc⟩ (x).toNat).c) _)) ?_
        rintro xv w' ⟨hx, H⟩
        exact ⟨(fun cv hc => hx.trans (Option.some.inj (Option.some.inj hc))), H⟩
      · show Sx.StepAt _ _ _ _ _ _ _ 25
        intro L A w up hun hd F H
        have F := Sx.Fr.to F (kv' := [(3, .pointer (some ⟨g1, 0, none⟩)), (86, .bool true)]) ⟨rfl, rfl, trivial⟩
        refine Sx.step_ong rfl (Sx.guard_known (d := 86) (b := true) F rfl rfl) rfl (Sx.d_load (i := 6) (xs := [.int .u64 ((Wd.hi pa).toNat), .int .u64 ((Wd.lo pa).toNat), .int .u64 ((Wd.hi pc).toNat), .int .u64 ((Wd.lo pc).toNat)]) rw_26 F H rfl rfl rfl rfl rfl) ?_
        rintro xv w' ⟨hx, rfl⟩
        exact ⟨(fun cv hc => hx.trans (Option.some.inj (Option.some.inj hc))), H⟩
      · show Sx.StepAt _ _ _ _ _ _ _ 26
        intro L A w up hun hd F H
        have F := Sx.Fr.to F (kv' := [(91, .agg #[.int .u64 ((Wd.hi pa).toNat), .int .u64 ((Wd.lo pa).toNat), .int .u64 ((Wd.hi pc).toNat), .int .u64 ((Wd.lo pc).toNat)]), (86, .bool true)]) ⟨rfl, rfl, trivial⟩
        refine Sx.step_ong rfl (Sx.guard_known (d := 86) (b := true) F rfl rfl) rfl (Sx.d_call (vs := [.agg #[.int .u64 ((Wd.hi pa).toNat), .int .u64 ((Wd.lo pa).toNat), .int .u64 ((Wd.hi pc).toNat), .int .u64 ((Wd.lo pc).toNat)]]) (v := .agg #[.int .u64 ((Wd.hi pa).toNat), .int .u64 ((Wd.lo pa).toNat), .int .u64 ((Wd.hi pc).toNat), .int .u64 ((Wd.lo pc).toNat)]) if_20 F H rfl rfl (own09_c pa pc _)) ?_
        rintro xv w' ⟨hx, H⟩
        exact ⟨(fun cv hc => hx.trans (Option.some.inj (Option.some.inj hc))), H⟩
      · show Sx.StepAt _ _ _ _ _ _ _ 27
        intro L A w up hun hd F H
        have F := Sx.Fr.to F (kv' := [(5, .pointer (some ⟨g3, 0, none⟩)), (86, .bool true)]) ⟨rfl, rfl, trivial⟩
        refine Sx.step_ong rfl (Sx.guard_known (d := 86) (b := true) F rfl rfl) rfl (Sx.d_load (i := 4) (xs := [.int .u64 ((Wd.hi x).toNat), .int .u64 ((Wd.lo x).toNat)]) rw_24 F H rfl rfl rfl rfl rfl) ?_
        rintro xv w' ⟨hx, rfl⟩
        exact ⟨(fun cv hc => hx.trans (Option.some.inj (Option.some.inj hc))), H⟩
      · show Sx.StepAt _ _ _ _ _ _ _ 28
        intro L A w up hun hd F H
        have F := Sx.Fr.to F (kv' := [(92, .agg #[.int .u64 ((Wd.hi pa).toNat), .int .u64 ((Wd.lo pa).toNat), .int .u64 ((Wd.hi pc).toNat), .int .u64 ((Wd.lo pc).toNat)]), (93, .agg #[.int .u64 ((Wd.hi x).toNat), .int .u64 ((Wd.lo x).toNat)]), (86, .bool true)]) ⟨rfl, rfl, rfl, trivial⟩
        refine Sx.step_ong rfl (Sx.guard_known (d := 86) (b := true) F rfl rfl) rfl (Sx.d_call (vs := [.agg #[.int .u64 ((Wd.hi pa).toNat), .int .u64 ((Wd.lo pa).toNat), .int .u64 ((Wd.hi pc).toNat), .int .u64 ((Wd.lo pc).toNat)], .agg #[.int .u64 ((Wd.hi x).toNat), .int .u64 ((Wd.lo x).toNat)]]) (v := .agg #[.int .u64 ((Wd.hi ((Af.pow ⟨pa, pc⟩ (x).toNat).a)).toNat), .int .u64 ((Wd.lo ((Af.pow ⟨pa, pc⟩ (x).toNat).a)).toNat), .int .u64 ((Wd.hi ((Af.pow ⟨pa, pc⟩ (x).toNat).c)).toNat), .int .u64 ((Wd.lo ((Af.pow ⟨pa, pc⟩ (x).toNat).c)).toNat)]) if_25 F H rfl rfl (rpow9_c pa pc x _)) ?_
        rintro xv w' ⟨hx, H⟩
        exact ⟨(fun cv hc => hx.trans (Option.some.inj (Option.some.inj hc))), H⟩
      · show Sx.StepAt _ _ _ _ _ _ _ 29
        intro L A w up hun hd F H
        have F := Sx.Fr.to F (kv' := [(90, .agg #[.int .u64 ((Wd.hi ((Af.pow ⟨pa, pc⟩ (x).toNat).a)).toNat), .int .u64 ((Wd.lo ((Af.pow ⟨pa, pc⟩ (x).toNat).a)).toNat), .int .u64 ((Wd.hi ((Af.pow ⟨pa, pc⟩ (x).toNat).c)).toNat), .int .u64 ((Wd.lo ((Af.pow ⟨pa, pc⟩ (x).toNat).c)).toNat)]), (94, .agg #[.int .u64 ((Wd.hi ((Af.pow ⟨pa, pc⟩ (x).toNat).a)).toNat), .int .u64 ((Wd.lo ((Af.pow ⟨pa, pc⟩ (x).toNat).a)).toNat), .int .u64 ((Wd.hi ((Af.pow ⟨pa, pc⟩ (x).toNat).c)).toNat), .int .u64 ((Wd.lo ((Af.pow ⟨pa, pc⟩ (x).toNat).c)).toNat)]), (86, .bool true)]) ⟨rfl, rfl, rfl, trivial⟩
        refine Sx.step_ong rfl (Sx.guard_known (d := 86) (b := true) F rfl rfl) rfl (Sx.d_bin (v := .bool true) F rfl rfl rfl (Sx.i_eqN (Sx.eqbM_true rfl rfl))) ?_
        rintro xv w' ⟨hx, rfl⟩
        exact ⟨(fun cv hc => hx.trans (Option.some.inj (Option.some.inj hc))), H⟩
      · show Sx.StepAt _ _ _ _ _ _ _ 30
        intro L A w up hun hd F H
        have F := Sx.Fr.to F (kv' := [(86, .bool true), (95, .bool true)]) ⟨rfl, rfl, trivial⟩
        refine Sx.step_on rfl (Sx.d_pickT (v := .bool true) F rfl rfl rfl) ?_
        rintro xv w' ⟨hx, rfl⟩
        exact ⟨(fun cv hc => hx.trans (Option.some.inj (Option.some.inj hc))), H⟩
      · show Sx.StepAt _ _ _ _ _ _ _ 31
        intro L A w up hun hd F H
        have F := Sx.Fr.to F (kv' := [(96, .bool true)]) ⟨rfl, trivial⟩
        refine Sx.step_on rfl (Sx.d_move F (Or.inl rfl) rfl) ?_
        rintro xv w' ⟨hx, rfl⟩
        exact ⟨(fun cv hc => hx.trans (Option.some.inj (Option.some.inj hc))), H⟩
      · show Sx.StepAt _ _ _ _ _ _ _ 32
        intro L A w up hun hd F H
        have F := Sx.Fr.to F (kv' := [(7, .pointer (some ⟨g4, 0, none⟩)), (97, .bool true)]) ⟨rfl, rfl, trivial⟩
        refine Sx.step_ong rfl (Sx.guard_known (d := 97) (b := true) F rfl rfl) rfl (Sx.d_load (i := 3) (xs := [.int .u64 ((Wd.hi (Af.oddv x)).toNat), .int .u64 ((Wd.lo (Af.oddv x)).toNat)]) rw_24 F H rfl rfl rfl rfl rfl) ?_
        rintro xv w' ⟨hx, rfl⟩
        exact ⟨(fun cv hc => hx.trans (Option.some.inj (Option.some.inj hc))), H⟩
      · show Sx.StepAt _ _ _ _ _ _ _ 33
        intro L A w up hun hd F H
        have F := Sx.Fr.to F (kv' := [(9, .pointer (some ⟨g5, 0, none⟩)), (97, .bool true)]) ⟨rfl, rfl, trivial⟩
        refine Sx.step_ong rfl (Sx.guard_known (d := 97) (b := true) F rfl rfl) rfl (Sx.d_load (i := 2) (xs := [.int .u64 ((Wd.hi (Af.oddv x)).toNat), .int .u64 ((Wd.lo (Af.oddv x)).toNat)]) rw_31 F H rfl rfl rfl rfl rfl) ?_
        rintro xv w' ⟨hx, rfl⟩
        exact ⟨(fun cv hc => hx.trans (Option.some.inj (Option.some.inj hc))), H⟩
      · show Sx.StepAt _ _ _ _ _ _ _ 34
        intro L A w up hun hd F H
        have F := Sx.Fr.to F (kv' := [(98, .agg #[.int .u64 ((Wd.hi (Af.oddv x)).toNat), .int .u64 ((Wd.lo (Af.oddv x)).toNat)]), (99, .agg #[.int .u64 ((Wd.hi (Af.oddv x)).toNat), .int .u64 ((Wd.lo (Af.oddv x)).toNat)]), (97, .bool true)]) ⟨rfl, rfl, rfl, trivial⟩
        refine Sx.step_ong rfl (Sx.guard_known (d := 97) (b := true) F rfl rfl) rfl (Sx.d_bin (v := .bool true) F rfl rfl rfl (Sx.i_eqU (eqb_self _))) ?_
        rintro xv w' ⟨hx, rfl⟩
        exact ⟨(fun cv hc => hx.trans (Option.some.inj (Option.some.inj hc))), H⟩
      · show Sx.StepAt _ _ _ _ _ _ _ 35
        intro L A w up hun hd F H
        have F := Sx.Fr.to F (kv' := [(97, .bool true), (100, .bool true)]) ⟨rfl, rfl, trivial⟩
        refine Sx.step_on rfl (Sx.d_pickT (v := .bool true) F rfl rfl rfl) ?_
        rintro xv w' ⟨hx, rfl⟩
        exact ⟨(fun cv hc => hx.trans (Option.some.inj (Option.some.inj hc))), H⟩
      · show Sx.StepAt _ _ _ _ _ _ _ 36
        intro L A w up hun hd F H
        have F := Sx.Fr.to F (kv' := [(101, .bool true)]) ⟨rfl, trivial⟩
        refine Sx.step_on rfl (Sx.d_move F (Or.inl rfl) rfl) ?_
        rintro xv w' ⟨hx, rfl⟩
        exact ⟨(fun cv hc => hx.trans (Option.some.inj (Option.some.inj hc))), H⟩
      · show Sx.StepAt _ _ _ _ _ _ _ 37
        intro L A w up hun hd F H
        have F := Sx.Fr.to F (kv' := [(8, .int .i64 (Af.odde x)), (102, .bool true)]) ⟨rfl, rfl, trivial⟩
        refine Sx.step_ong rfl (Sx.guard_known (d := 102) (b := true) F rfl rfl) rfl (Sx.d_move F (Or.inl rfl) rfl) ?_
        rintro xv w' ⟨hx, rfl⟩
        exact ⟨(fun cv hc => hx.trans (Option.some.inj (Option.some.inj hc))), H⟩
      · show Sx.StepAt _ _ _ _ _ _ _ 38
        intro L A w up hun hd F H
        have F := Sx.Fr.to F (kv' := [(10, .int .i64 (Af.odde x)), (102, .bool true)]) ⟨rfl, rfl, trivial⟩
        refine Sx.step_ong rfl (Sx.guard_known (d := 102) (b := true) F rfl rfl) rfl (Sx.d_move F (Or.inl rfl) rfl) ?_
        rintro xv w' ⟨hx, rfl⟩
        exact ⟨(fun cv hc => hx.trans (Option.some.inj (Option.some.inj hc))), H⟩
      · show Sx.StepAt _ _ _ _ _ _ _ 39
        intro L A w up hun hd F H
        have F := Sx.Fr.to F (kv' := [(103, .int .i64 (Af.odde x)), (104, .int .i64 (Af.odde x)), (102, .bool true)]) ⟨rfl, rfl, rfl, trivial⟩
        refine Sx.step_ong rfl (Sx.guard_known (d := 102) (b := true) F rfl rfl) rfl (Sx.d_bin (v := .bool true) F rfl rfl rfl (Sx.i_eq (by simp))) ?_
        rintro xv w' ⟨hx, rfl⟩
        exact ⟨(fun cv hc => hx.trans (Option.some.inj (Option.some.inj hc))), H⟩
      · show Sx.StepAt _ _ _ _ _ _ _ 40
        intro L A w up hun hd F H
        have F := Sx.Fr.to F (kv' := [(102, .bool true), (105, .bool true)]) ⟨rfl, rfl, trivial⟩
        refine Sx.step_on rfl (Sx.d_pickT (v := .bool true) F rfl rfl rfl) ?_
        rintro xv w' ⟨hx, rfl⟩
        exact ⟨(fun cv hc => hx.trans (Option.some.inj (Option.some.inj hc))), H⟩
      · show Sx.StepAt _ _ _ _ _ _ _ 41
        intro L A w up hun hd F H
        have F := Sx.Fr.to F (kv' := [(106, .bool true)]) ⟨rfl, trivial⟩
        refine Sx.step_on rfl (Sx.d_move F (Or.inr rfl) rfl) ?_
        rintro xv w' ⟨hx, rfl⟩
        exact ⟨(fun cv hc => hx.trans (Option.some.inj (Option.some.inj hc))), H⟩
    · intro L A w hL F H
      have F := Sx.Fr.to F (kv' := [(6, .bool true)]) ⟨rfl, trivial⟩
      refine hK11 _ _ ?_
      refine wp_ret ?_
      try dsimp only [Exit.then, Exit.inBlock, Exit.jump]
      refine Sx.ret1 F Try.results3 (Sx.res_tmp (v := .bool true) F rfl) ⟨?_, H.below⟩
      rfl
theorem affineTells_walk (pa pc qa qc x : BitVec 128) (w : World) : Calls Try.prog 3 #[.agg #[.int .u64 ((Wd.hi pa).toNat), .int .u64 ((Wd.lo pa).toNat), .int .u64 ((Wd.hi pc).toNat), .int .u64 ((Wd.lo pc).toNat)], .agg #[.int .u64 ((Wd.hi qa).toNat), .int .u64 ((Wd.lo qa).toNat), .int .u64 ((Wd.hi qc).toNat), .int .u64 ((Wd.lo qc).toNat)], .agg #[.int .u64 ((Wd.hi x).toNat), .int .u64 ((Wd.lo x).toNat)]] w fun e w' => e = .returned (.bool true) ∧ Below w.heap.size w w' := by
  cases h : Af.odd pa
  · exact affineTells_no pa pc qa qc x h w
  · exact affineTells_ok pa pc qa qc x h w
end Go.Proofs.Ytpbdffmgendboaa
