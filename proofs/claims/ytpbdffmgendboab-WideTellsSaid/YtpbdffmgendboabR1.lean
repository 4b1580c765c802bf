/- The reference's digits, whole, Add, Mul walked. -/
import Derived.Test.YtpbdffmgendboabSxF
import Derived.Test.YtpbdffmgendboabR1Plain
namespace Go.Proofs.Ytpbdffmgendboab
open Go Go.RowKit
set_option maxRecDepth 100000 in
theorem rdigits_c (da : BitVec 128) (w0 : World) : Calls Try.prog 56 #[.agg #[.int .u64 ((Wd.hi da).toNat), .int .u64 ((Wd.lo da).toNat)]] w0 fun e w' => e = .returned (.agg #[.int .u64 ((Wd.lo da % 4294967296#64).toNat), .int .u64 ((Wd.lo da / 4294967296#64).toNat), .int .u64 ((Wd.hi da % 4294967296#64).toNat), .int .u64 ((Wd.hi da / 4294967296#64).toNat)]) ∧ Below w0.heap.size w0 w' := by
  refine Sx.enter (args := [.agg #[.int .u64 ((Wd.hi da).toNat), .int .u64 ((Wd.lo da).toNat)]]) Try.func56 rfl Try.ntmps56 (Nat.le_of_ble_eq_true rfl) (fun A F => ?_)
  have H := Sx.Own.start w0
  refine Sx.seq (fun K1 hK1 => ?_)
  refine Sx.plain ?_
  refine Sx.sb F (Sx.d_box F H rfl rfl [.int .u64 ((Wd.hi da).toNat), .int .u64 ((Wd.lo da).toNat)] rfl) (Sx.wanted_none rfl _) rfl (by decide) (fun g1 A w F H => ?_)
  refine Sx.sb F (Sx.d_alloc H rfl [.int .u64 0, .int .u64 0, .int .u64 0, .int .u64 0] zero_92) (Sx.wanted_none rfl _) rfl (by decide) (fun g2 A w F H => ?_)
  refine Sx.nil ?_
  refine hK1 _ _ ?_
  refine Sx.seq (fun K2 hK2 => ?_)
  refine Sx.plain ?_
  refine Sx.sv F (Sx.d_faddr (v := .pointer (some ⟨g1, 1, none⟩)) F rfl rfl (fa_43_1 _ 0 _)) (Sx.wanted_none rfl _) rfl (by decide) (fun A F => ?_)
  refine Sx.sv F (Sx.d_load1 (i := 1) (v := .int .u64 ((Wd.lo da).toNat)) one_22 F H rfl rfl rfl rfl) (Sx.wanted_none rfl _) rfl (by decide) (fun A F => ?_)
  refine Sx.sv F (Sx.d_bin (v := .int .u64 (((Wd.lo da) % 4294967296#64).toNat)) F rfl rfl rfl (Sx.i_rem64 (Wd.lo da) 4294967296#64 (by decide))) (Sx.wanted_none rfl _) rfl (by decide) (fun A F => ?_)
  refine Sx.sv F (Sx.d_faddr (v := .pointer (some ⟨g1, 1, none⟩)) F rfl rfl (fa_43_1 _ 0 _)) (Sx.wanted_none rfl _) rfl (by decide) (fun A F => ?_)
  refine Sx.sv F (Sx.d_load1 (i := 1) (v := .int .u64 ((Wd.lo da).toNat)) one_22 F H rfl rfl rfl rfl) (Sx.wanted_none rfl _) rfl (by decide) (fun A F => ?_)
  refine Sx.sv F (Sx.d_bin (v := .int .u64 (((Wd.lo da) / 4294967296#64).toNat)) F rfl rfl rfl (Sx.i_quo64 (Wd.lo da) 4294967296#64 (by decide))) (Sx.wanted_none rfl _) rfl (by decide) (fun A F => ?_)
  refine Sx.sv F (Sx.d_faddr (v := .pointer (some ⟨g1, 0, none⟩)) F rfl rfl (fa_43_0 _ 0 _)) (Sx.wanted_none rfl _) rfl (by decide) (fun A F => ?_)
  refine Sx.sv F (Sx.d_load1 (i := 1) (v := .int .u64 ((Wd.hi da).toNat)) one_22 F H rfl rfl rfl rfl) (Sx.wanted_none rfl _) rfl (by decide) (fun A F => ?_)
  refine Sx.sv F (Sx.d_bin (v := .int .u64 (((Wd.hi da) % 4294967296#64).toNat)) F rfl rfl rfl (Sx.i_rem64 (Wd.hi da) 4294967296#64 (by decide))) (Sx.wanted_none rfl _) rfl (by decide) (fun A F => ?_)
  refine Sx.sv F (Sx.d_faddr (v := .pointer (some ⟨g1, 0, none⟩)) F rfl rfl (fa_43_0 _ 0 _)) (Sx.wanted_none rfl _) rfl (by decide) (fun A F => ?_)
  refine Sx.sv F (Sx.d_load1 (i := 1) (v := .int .u64 ((Wd.hi da).toNat)) one_22 F H rfl rfl rfl rfl) (Sx.wanted_none rfl _) rfl (by decide) (fun A F => ?_)
  refine Sx.sv F (Sx.d_bin (v := .int .u64 (((Wd.hi da) / 4294967296#64).toNat)) F rfl rfl rfl (Sx.i_quo64 (Wd.hi da) 4294967296#64 (by decide))) (Sx.wanted_none rfl _) rfl (by decide) (fun A F => ?_)
  refine Sx.sv F (Sx.d_build (qs := #[(0, .int .u64 (((Wd.lo da) % 4294967296#64).toNat)), (1, .int .u64 (((Wd.lo da) / 4294967296#64).toNat)), (2, .int .u64 (((Wd.hi da) % 4294967296#64).toNat)), (3, .int .u64 (((Wd.hi da) / 4294967296#64).toNat))]) (v := .agg #[.int .u64 (((Wd.lo da) % 4294967296#64).toNat), .int .u64 (((Wd.lo da) / 4294967296#64).toNat), .int .u64 (((Wd.hi da) % 4294967296#64).toNat), .int .u64 (((Wd.hi da) / 4294967296#64).toNat)]) F rfl rfl (by kernel_rfl)) (Sx.wanted_none rfl _) rfl (by decide) (fun A F => ?_)
  refine Sx.ss F (Sx.d_store (i := 0) (xs := [.int .u64 (((Wd.lo da) % 4294967296#64).toNat), .int .u64 (((Wd.lo da) / 4294967296#64).toNat), .int .u64 (((Wd.hi da) % 4294967296#64).toNat), .int .u64 (((Wd.hi da) / 4294967296#64).toNat)]) (us := [.int .u64 (((Wd.lo da) % 4294967296#64).toNat), .int .u64 (((Wd.lo da) / 4294967296#64).toNat), .int .u64 (((Wd.hi da) % 4294967296#64).toNat), .int .u64 (((Wd.hi da) / 4294967296#64).toNat)]) sz_92 F H rfl rfl rfl rfl rfl rfl rfl (Nat.le_of_ble_eq_true rfl) rfl) (Sx.wanted_none rfl _) rfl (fun A w F (H : Sx.Own w0 _ [(true, g2, [.int .u64 (((Wd.lo da) % 4294967296#64).toNat), .int .u64 (((Wd.lo da) / 4294967296#64).toNat), .int .u64 (((Wd.hi da) % 4294967296#64).toNat), .int .u64 (((Wd.hi da) / 4294967296#64).toNat)]), (true, g1, [.int .u64 ((Wd.hi da).toNat), .int .u64 ((Wd.lo da).toNat)])] []) => ?_)
  refine Sx.nil ?_
  refine hK2 _ _ ?_
  refine wp_ret ?_
  try dsimp only [Exit.then, Exit.inBlock, Exit.jump]
  refine Sx.ret1 F Try.results56 (Sx.res_row (i := 0) (xs := [.int .u64 (((Wd.lo da) % 4294967296#64).toNat), .int .u64 (((Wd.lo da) / 4294967296#64).toNat), .int .u64 (((Wd.hi da) % 4294967296#64).toNat), .int .u64 (((Wd.hi da) / 4294967296#64).toNat)]) rw_92 F H rfl rfl rfl rfl) ⟨?_, H.below⟩
  rfl
set_option maxRecDepth 100000 in
theorem rwhole_c (d0 d1 d2 d3 : BitVec 64) (w0 : World) : Calls Try.prog 57 #[.agg #[.int .u64 ((d0).toNat), .int .u64 ((d1).toNat), .int .u64 ((d2).toNat), .int .u64 ((d3).toNat)]] w0 fun e w' => e = .returned (.agg #[.int .u64 ((Wd.hi (Wd.mk (d2 + 4294967296#64 * d3) (d0 + 4294967296#64 * d1))).toNat), .int .u64 ((Wd.lo (Wd.mk (d2 + 4294967296#64 * d3) (d0 + 4294967296#64 * d1))).toNat)]) ∧ Below w0.heap.size w0 w' := by
  refine Sx.enter (args := [.agg #[.int .u64 ((d0).toNat), .int .u64 ((d1).toNat), .int .u64 ((d2).toNat), .int .u64 ((d3).toNat)]]) Try.func57 rfl Try.ntmps57 (Nat.le_of_ble_eq_true rfl) (fun A F => ?_)
  have H := Sx.Own.start w0
  refine Sx.seq (fun K1 hK1 => ?_)
  refine Sx.plain ?_
  refine Sx.sb F (Sx.d_box F H rfl rfl [.int .u64 ((d0).toNat), .int .u64 ((d1).toNat), .int .u64 ((d2).toNat), .int .u64 ((d3).toNat)] rfl) (Sx.wanted_none rfl _) rfl (by decide) (fun g1 A w F H => ?_)
  refine Sx.sb F (Sx.d_alloc H rfl [.int .u64 ((Wd.hi 0#128).toNat), .int .u64 ((Wd.lo 0#128).toNat)] zero_43) (Sx.wanted_none rfl _) rfl (by decide) (fun g2 A w F H => ?_)
  refine Sx.nil ?_
  refine hK1 _ _ ?_
  refine Sx.seq (fun K2 hK2 => ?_)
  refine Sx.plain ?_
  refine Sx.sv F (Sx.d_iaddr (v := .pointer (some ⟨g1, 2, none⟩)) F rfl rfl rfl (by kernel_rfl)) (Sx.wanted_none rfl _) rfl (by decide) (fun A F => ?_)
  refine Sx.sv F (Sx.d_load1 (i := 1) (v := .int .u64 ((d2).toNat)) one_22 F H rfl rfl rfl rfl) (Sx.wanted_none rfl _) rfl (by decide) (fun A F => ?_)
  refine Sx.sv F (Sx.d_iaddr (v := .pointer (some ⟨g1, 3, none⟩)) F rfl rfl rfl (by kernel_rfl)) (Sx.wanted_none rfl _) rfl (by decide) (fun A F => ?_)
  refine Sx.sv F (Sx.d_load1 (i := 1) (v := .int .u64 ((d3).toNat)) one_22 F H rfl rfl rfl rfl) (Sx.wanted_none rfl _) rfl (by decide) (fun A F => ?_)
  refine Sx.sv F (Sx.d_bin (v := .int .u64 ((4294967296#64 * (d3)).toNat)) F rfl rfl rfl (Sx.i_mul64 4294967296#64 (d3))) (Sx.wanted_none rfl _) rfl (by decide) (fun A F => ?_)
  refine Sx.sv F (Sx.d_bin (v := .int .u64 (((d2) + (4294967296#64 * (d3))).toNat)) F rfl rfl rfl (Sx.i_add64 (d2) (4294967296#64 * (d3)))) (Sx.wanted_none rfl _) rfl (by decide) (fun A F => ?_)
  refine Sx.sv F (Sx.d_iaddr (v := .pointer (some ⟨g1, 0, none⟩)) F rfl rfl rfl (by kernel_rfl)) (Sx.wanted_none rfl _) rfl (by decide) (fun A F => ?_)
  refine Sx.sv F (Sx.d_load1 (i := 1) (v := .int .u64 ((d0).toNat)) one_22 F H rfl rfl rfl rfl) (Sx.wanted_none rfl _) rfl (by decide) (fun A F => ?_)
  refine Sx.sv F (Sx.d_iaddr (v := .pointer (some ⟨g1, 1, none⟩)) F rfl rfl rfl (by kernel_rfl)) (Sx.wanted_none rfl _) rfl (by decide) (fun A F => ?_)
  refine Sx.sv F (Sx.d_load1 (i := 1) (v := .int .u64 ((d1).toNat)) one_22 F H rfl rfl rfl rfl) (Sx.wanted_none rfl _) rfl (by decide) (fun A F => ?_)
  refine Sx.sv F (Sx.d_bin (v := .int .u64 ((4294967296#64 * (d1)).toNat)) F rfl rfl rfl (Sx.i_mul64 4294967296#64 (d1))) (Sx.wanted_none rfl _) rfl (by decide) (fun A F => ?_)
  refine Sx.sv F (Sx.d_bin (v := .int .u64 (((d0) + (4294967296#64 * (d1))).toNat)) F rfl rfl rfl (Sx.i_add64 (d0) (4294967296#64 * (d1)))) (Sx.wanted_none rfl _) rfl (by decide) (fun A F => ?_)
  refine Sx.sv F (Sx.d_build (qs := #[(0, .int .u64 (((d2) + (4294967296#64 * (d3))).toNat)), (1, .int .u64 (((d0) + (4294967296#64 * (d1))).toNat))]) (v := .agg #[.int .u64 ((Wd.hi (Wd.mk ((d2) + (4294967296#64 * (d3))) ((d0) + (4294967296#64 * (d1))))).toNat), .int .u64 ((Wd.lo (Wd.mk ((d2) + (4294967296#64 * (d3))) ((d0) + (4294967296#64 * (d1))))).toNat)]) F rfl rfl (by rw [Wd.hi_mk, Wd.lo_mk]; kernel_rfl)) (Sx.wanted_none rfl _) rfl (by decide) (fun A F => ?_)
  refine Sx.ss F (Sx.d_store (i := 0) (xs := [.int .u64 ((Wd.hi (Wd.mk ((d2) + (4294967296#64 * (d3))) ((d0) + (4294967296#64 * (d1))))).toNat), .int .u64 ((Wd.lo (Wd.mk ((d2) + (4294967296#64 * (d3))) ((d0) + (4294967296#64 * (d1))))).toNat)]) (us := [.int .u64 ((Wd.hi (Wd.mk ((d2) + (4294967296#64 * (d3))) ((d0) + (4294967296#64 * (d1))))).toNat), .int .u64 ((Wd.lo (Wd.mk ((d2) + (4294967296#64 * (d3))) ((d0) + (4294967296#64 * (d1))))).toNat)]) sz_43 F H rfl rfl rfl rfl rfl rfl rfl (Nat.le_of_ble_eq_true rfl) rfl) (Sx.wanted_none rfl _) rfl (fun A w F (H : Sx.Own w0 _ [(true, g2, [.int .u64 ((Wd.hi (Wd.mk ((d2) + (4294967296#64 * (d3))) ((d0) + (4294967296#64 * (d1))))).toNat), .int .u64 ((Wd.lo (Wd.mk ((d2) + (4294967296#64 * (d3))) ((d0) + (4294967296#64 * (d1))))).toNat)]), (true, g1, [.int .u64 ((d0).toNat), .int .u64 ((d1).toNat), .int .u64 ((d2).toNat), .int .u64 ((d3).toNat)])] []) => ?_)
  refine Sx.nil ?_
  refine hK2 _ _ ?_
  refine wp_ret ?_
  try dsimp only [Exit.then, Exit.inBlock, Exit.jump]
  refine Sx.ret1 F Try.results57 (Sx.res_row (i := 0) (xs := [.int .u64 ((Wd.hi (Wd.mk ((d2) + (4294967296#64 * (d3))) ((d0) + (4294967296#64 * (d1))))).toNat), .int .u64 ((Wd.lo (Wd.mk ((d2) + (4294967296#64 * (d3))) ((d0) + (4294967296#64 * (d1))))).toNat)]) rw_43 F H rfl rfl rfl rfl) ⟨?_, H.below⟩
  rfl
set_option maxHeartbeats 4000000 in
set_option maxRecDepth 100000 in
theorem radd_c (da db : BitVec 128) (w0 : World) : Calls Try.prog 23 #[.agg #[.int .u64 ((Wd.hi da).toNat), .int .u64 ((Wd.lo da).toNat)], .agg #[.int .u64 ((Wd.hi db).toNat), .int .u64 ((Wd.lo db).toNat)]] w0 fun e w' => e = .returned (.tuple #[.agg #[.int .u64 ((Wd.hi (da + db)).toNat), .int .u64 ((Wd.lo (da + db)).toNat)], .bool (Wd.over da db)]) ∧ Below w0.heap.size w0 w' := by
  refine Sx.enter (args := [.agg #[.int .u64 ((Wd.hi da).toNat), .int .u64 ((Wd.lo da).toNat)], .agg #[.int .u64 ((Wd.hi db).toNat), .int .u64 ((Wd.lo db).toNat)]]) Try.func23 rfl Try.ntmps23 (Nat.le_of_ble_eq_true rfl) (fun A F => ?_)
  have H := Sx.Own.start w0
  refine Sx.seq (fun K1 hK1 => ?_)
  refine Sx.plain ?_
  refine Sx.sb F (Sx.d_box F H rfl rfl [.int .u64 ((Wd.hi da).toNat), .int .u64 ((Wd.lo da).toNat)] rfl) (Sx.wanted_none rfl _) rfl (by decide) (fun g1 A w F H => ?_)
  refine Sx.sb F (Sx.d_box F H rfl rfl [.int .u64 ((Wd.hi db).toNat), .int .u64 ((Wd.lo db).toNat)] rfl) (Sx.wanted_none rfl _) rfl (by decide) (fun g2 A w F H => ?_)
  refine Sx.sb F (Sx.d_alloc H rfl [.int .u64 ((Wd.hi 0#128).toNat), .int .u64 ((Wd.lo 0#128).toNat)] zero_43) (Sx.wanted_none rfl _) rfl (by decide) (fun g3 A w F H => ?_)
  refine Sx.sv F (Sx.d_move F (Or.inr rfl) rfl) (Sx.wanted_none rfl _) rfl (by decide) (fun A F => ?_)
  refine Sx.nil ?_
  refine hK1 _ _ ?_
  refine Sx.seq (fun K2 hK2 => ?_)
  refine Sx.plain ?_
  refine Sx.sv F (Sx.d_load (i := 2) (xs := [.int .u64 ((Wd.hi da).toNat), .int .u64 ((Wd.lo da).toNat)]) rw_43 F H rfl rfl rfl rfl rfl) (Sx.wanted_none rfl _) rfl (by decide) (fun A F => ?_)
  refine Sx.sw F (Sx.d_call (vs := [.agg #[.int .u64 ((Wd.hi da).toNat), .int .u64 ((Wd.lo da).toNat)]]) (v := .agg #[.int .u64 ((Wd.lo da % 4294967296#64).toNat), .int .u64 ((Wd.lo da / 4294967296#64).toNat), .int .u64 ((Wd.hi da % 4294967296#64).toNat), .int .u64 ((Wd.hi da / 4294967296#64).toNat)]) if_56 F H rfl rfl (rdigits_c da _)) (Sx.wanted_none rfl _) rfl (by decide) (fun A w F H => ?_)
  refine Sx.sb F (Sx.d_alloc H rfl [.int .u64 0, .int .u64 0, .int .u64 0, .int .u64 0] zero_92) (Sx.wanted_none rfl _) rfl (by decide) (fun g4 A w F H => ?_)
  refine Sx.ss F (Sx.d_store (i := 0) (xs := [.int .u64 ((Wd.lo da % 4294967296#64).toNat), .int .u64 ((Wd.lo da / 4294967296#64).toNat), .int .u64 ((Wd.hi da % 4294967296#64).toNat), .int .u64 ((Wd.hi da / 4294967296#64).toNat)]) (us := [.int .u64 ((Wd.lo da % 4294967296#64).toNat), .int .u64 ((Wd.lo da / 4294967296#64).toNat), .int .u64 ((Wd.hi da % 4294967296#64).toNat), .int .u64 ((Wd.hi da / 4294967296#64).toNat)]) sz_92 F H rfl rfl rfl rfl rfl rfl rfl (Nat.le_of_ble_eq_true rfl) rfl) (Sx.wanted_none rfl _) rfl (fun A w F (H : Sx.Own w0 _ [(true, g4, [.int .u64 ((Wd.lo da % 4294967296#64).toNat), .int .u64 ((Wd.lo da / 4294967296#64).toNat), .int .u64 ((Wd.hi da % 4294967296#64).toNat), .int .u64 ((Wd.hi da / 4294967296#64).toNat)]), (true, g3, [.int .u64 ((Wd.hi 0#128).toNat), .int .u64 ((Wd.lo 0#128).toNat)]), (true, g2, [.int .u64 ((Wd.hi db).toNat), .int .u64 ((Wd.lo db).toNat)]), (true, g1, [.int .u64 ((Wd.hi da).toNat), .int .u64 ((Wd.lo da).toNat)])] []) => ?_)
  refine Sx.nil ?_
  refine hK2 _ _ ?_
  refine Sx.seq (fun K3 hK3 => ?_)
  refine Sx.plain ?_
  refine Sx.sv F (Sx.d_load (i := 2) (xs := [.int .u64 ((Wd.hi db).toNat), .int .u64 ((Wd.lo db).toNat)]) rw_43 F H rfl rfl rfl rfl rfl) (Sx.wanted_none rfl _) rfl (by decide) (fun A F => ?_)
  refine Sx.sw F (Sx.d_call (vs := [.agg #[.int .u64 ((Wd.hi db).toNat), .int .u64 ((Wd.lo db).toNat)]]) (v := .agg #[.int .u64 ((Wd.lo db % 4294967296#64).toNat), .int .u64 ((Wd.lo db / 4294967296#64).toNat), .int .u64 ((Wd.hi db % 4294967296#64).toNat), .int .u64 ((Wd.hi db / 4294967296#64).toNat)]) if_56 F H rfl rfl (rdigits_c db _)) (Sx.wanted_none rfl _) rfl (by decide) (fun A w F H => ?_)
  refine Sx.sb F (Sx.d_alloc H rfl [.int .u64 0, .int .u64 0, .int .u64 0, .int .u64 0] zero_92) (Sx.wanted_none rfl _) rfl (by decide) (fun g5 A w F H => ?_)
  refine Sx.ss F (Sx.d_store (i := 0) (xs := [.int .u64 ((Wd.lo db % 4294967296#64).toNat), .int .u64 ((Wd.lo db / 4294967296#64).toNat), .int .u64 ((Wd.hi db % 4294967296#64).toNat), .int .u64 ((Wd.hi db / 4294967296#64).toNat)]) (us := [.int .u64 ((Wd.lo db % 4294967296#64).toNat), .int .u64 ((Wd.lo db / 4294967296#64).toNat), .int .u64 ((Wd.hi db % 4294967296#64).toNat), .int .u64 ((Wd.hi db / 4294967296#64).toNat)]) sz_92 F H rfl rfl rfl rfl rfl rfl rfl (Nat.le_of_ble_eq_true rfl) rfl) (Sx.wanted_none rfl _) rfl (fun A w F (H : Sx.Own w0 _ [(true, g5, [.int .u64 ((Wd.lo db % 4294967296#64).toNat), .int .u64 ((Wd.lo db / 4294967296#64).toNat), .int .u64 ((Wd.hi db % 4294967296#64).toNat), .int .u64 ((Wd.hi db / 4294967296#64).toNat)]), (true, g4, [.int .u64 ((Wd.lo da % 4294967296#64).toNat), .int .u64 ((Wd.lo da / 4294967296#64).toNat), .int .u64 ((Wd.hi da % 4294967296#64).toNat), .int .u64 ((Wd.hi da / 4294967296#64).toNat)]), (true, g3, [.int .u64 ((Wd.hi 0#128).toNat), .int .u64 ((Wd.lo 0#128).toNat)]), (true, g2, [.int .u64 ((Wd.hi db).toNat), .int .u64 ((Wd.lo db).toNat)]), (true, g1, [.int .u64 ((Wd.hi da).toNat), .int .u64 ((Wd.lo da).toNat)])] []) => ?_)
  refine Sx.nil ?_
  refine hK3 _ _ ?_
  refine Sx.seq (fun K4 hK4 => ?_)
  refine Sx.plain ?_
  refine Sx.sv F (Sx.d_move F (Or.inr rfl) rfl) (Sx.wanted_none rfl _) rfl (by decide) (fun A F => ?_)
  refine Sx.nil ?_
  refine hK4 _ _ ?_
  refine Sx.seq (fun K5 hK5 => ?_)
  refine Sx.seq (fun K6 hK6 => ?_)
  refine Sx.plain ?_
  refine Sx.sv F (Sx.d_move F (Or.inr rfl) rfl) (Sx.wanted_none rfl _) rfl (by decide) (fun A F => ?_)
  refine Sx.nil ?_
  refine hK6 _ _ ?_
  refine wp_block ?_
  refine wp_loop_rounds 5 ?_
  try dsimp only [Exit.then]
  rw [rounds_succ]
  refine Sx.seq (fun K7 hK7 => ?_)
  refine Sx.seq (fun K8 hK8 => ?_)
  refine Sx.plain ?_
  refine Sx.sv F (Sx.d_move F (Or.inl rfl) rfl) (Sx.wanted_none rfl _) rfl (by decide) (fun A F => ?_)
  refine Sx.sv F (Sx.d_bin (v := .bool true) F rfl rfl rfl (Sx.i_lt (by decide))) (Sx.wanted_none rfl _) rfl (by decide) (fun A F => ?_)
  refine Sx.nil ?_
  refine hK8 _ _ ?_
  refine Sx.condT F rfl ?_
  refine wp_skip ?_
  refine hK7 _ _ ?_
  refine Sx.seq (fun K9 hK9 => ?_)
  refine wp_block ?_
  refine Sx.seq (fun K10 hK10 => ?_)
  have F := Sx.Fr.to F (kv' := [(0, .agg #[.int .u64 ((Wd.hi da).toNat), .int .u64 ((Wd.lo da).toNat)]), (1, .agg #[.int .u64 ((Wd.hi db).toNat), .int .u64 ((Wd.lo db).toNat)]), (2, .pointer (some ⟨g1, 0, none⟩)), (3, .pointer (some ⟨g2, 0, none⟩)), (4, .pointer (some ⟨g3, 0, none⟩)), (5, .bool false), (11, .agg #[.int .u64 ((Wd.hi da).toNat), .int .u64 ((Wd.lo da).toNat)]), (12, .agg #[.int .u64 ((Wd.lo da % 4294967296#64).toNat), .int .u64 ((Wd.lo da / 4294967296#64).toNat), .int .u64 ((Wd.hi da % 4294967296#64).toNat), .int .u64 ((Wd.hi da / 4294967296#64).toNat)]), (6, .pointer (some ⟨g4, 0, none⟩)), (13, .agg #[.int .u64 ((Wd.hi db).toNat), .int .u64 ((Wd.lo db).toNat)]), (14, .agg #[.int .u64 ((Wd.lo db % 4294967296#64).toNat), .int .u64 ((Wd.lo db / 4294967296#64).toNat), .int .u64 ((Wd.hi db % 4294967296#64).toNat), .int .u64 ((Wd.hi db / 4294967296#64).toNat)]), (7, .pointer (some ⟨g5, 0, none⟩)), (8, .int .u64 0), (9, .int .i64 0), (15, .int .i64 0), (16, .bool true)]) ⟨rfl, rfl, rfl, rfl, rfl, rfl, rfl, rfl, rfl, rfl, rfl, rfl, rfl, rfl, rfl, rfl, trivial⟩
  refine Sx.drawn F (by kernel_rfl) (by kernel_rfl) (by kernel_rfl) [some (.int .i64 0), some (.pointer (some ⟨g4, 0, none⟩)), some (.int .u64 ((Wd.lo da % 4294967296#64).toNat)), some (.int .i64 0), some (.pointer (some ⟨g5, 0, none⟩)), some (.int .u64 ((Wd.lo db % 4294967296#64).toNat)), some (.int .u64 (((Wd.lo da % 4294967296#64) + (Wd.lo db % 4294967296#64)).toNat)), some (.int .u64 0), some (.int .u64 ((((Wd.lo da % 4294967296#64) + (Wd.lo db % 4294967296#64)) + 0#64).toNat)), some (.int .u64 ((((Wd.lo da % 4294967296#64) + (Wd.lo db % 4294967296#64)) + 0#64).toNat))] (fun L A w => Sx.Own w0 w [(true, g5, [.int .u64 ((Wd.lo db % 4294967296#64).toNat), .int .u64 ((Wd.lo db / 4294967296#64).toNat), .int .u64 ((Wd.hi db % 4294967296#64).toNat), .int .u64 ((Wd.hi db / 4294967296#64).toNat)]), (true, g4, [.int .u64 ((Wd.lo da % 4294967296#64).toNat), .int .u64 ((Wd.lo da / 4294967296#64).toNat), .int .u64 ((Wd.hi da % 4294967296#64).toNat), .int .u64 ((Wd.hi da / 4294967296#64).toNat)]), (true, g3, [.int .u64 ((Wd.hi 0#128).toNat), .int .u64 ((Wd.lo 0#128).toNat)]), (true, g2, [.int .u64 ((Wd.hi db).toNat), .int .u64 ((Wd.lo db).toNat)]), (true, g1, [.int .u64 ((Wd.hi da).toNat), .int .u64 ((Wd.lo da).toNat)])] []) H.drew ?_ ?_
  · refine ⟨?_, ?_, ?_, ?_, ?_, ?_, ?_, ?_, ?_, ?_, trivial⟩
    · show Sx.StepAt _ _ _ _ _ _ _ 0
      intro L A w up hun hd F H
      have F := Sx.Fr.to F (kv' := [(9, .int .i64 0)]) ⟨rfl, trivial⟩
      refine Sx.step_on rfl (Sx.d_move F (Or.inl rfl) rfl) ?_
      rintro xv w' ⟨hx, rfl⟩
      exact ⟨(fun cv hc => hx.trans (Option.some.inj (Option.some.inj hc))), H⟩
    · show Sx.StepAt _ _ _ _ _ _ _ 1
      intro L A w up hun hd F H
      have F := Sx.Fr.to F (kv' := [(6, .pointer (some ⟨g4, 0, none⟩)), (19, .int .i64 0)]) ⟨rfl, rfl, trivial⟩
      refine Sx.step_on rfl (Sx.d_iaddr (v := .pointer (some ⟨g4, 0, none⟩)) F rfl rfl rfl (by kernel_rfl)) ?_
      rintro xv w' ⟨hx, rfl⟩
      exact ⟨(fun cv hc => hx.trans (Option.some.inj (Option.some.inj hc))), H⟩
    · show Sx.StepAt _ _ _ _ _ _ _ 2
      intro L A w up hun hd F H
      have F := Sx.Fr.to F (kv' := [(20, .pointer (some ⟨g4, 0, none⟩))]) ⟨rfl, trivial⟩
      refine Sx.step_on rfl (Sx.d_load1 (i := 1) (v := .int .u64 ((Wd.lo da % 4294967296#64).toNat)) one_22 F H rfl rfl rfl rfl) ?_
      rintro xv w' ⟨hx, rfl⟩
      exact ⟨(fun cv hc => hx.trans (Option.some.inj (Option.some.inj hc))), H⟩
    · show Sx.StepAt _ _ _ _ _ _ _ 3
      intro L A w up hun hd F H
      have F := Sx.Fr.to F (kv' := [(9, .int .i64 0)]) ⟨rfl, trivial⟩
      refine Sx.step_on rfl (Sx.d_move F (Or.inl rfl) rfl) ?_
      rintro xv w' ⟨hx, rfl⟩
      exact ⟨(fun cv hc => hx.trans (Option.some.inj (Option.some.inj hc))), H⟩
    · show Sx.StepAt _ _ _ _ _ _ _ 4
      intro L A w up hun hd F H
      have F := Sx.Fr.to F (kv' := [(7, .pointer (some ⟨g5, 0, none⟩)), (22, .int .i64 0)]) ⟨rfl, rfl, trivial⟩
      refine Sx.step_on rfl (Sx.d_iaddr (v := .pointer (some ⟨g5, 0, none⟩)) F rfl rfl rfl (by kernel_rfl)) ?_
      rintro xv w' ⟨hx, rfl⟩
      exact ⟨(fun cv hc => hx.trans (Option.some.inj (Option.some.inj hc))), H⟩
    · show Sx.StepAt _ _ _ _ _ _ _ 5
      intro L A w up hun hd F H
      have F := Sx.Fr.to F (kv' := [(23, .pointer (some ⟨g5, 0, none⟩))]) ⟨rfl, trivial⟩
      refine Sx.step_on rfl (Sx.d_load1 (i := 0) (v := .int .u64 ((Wd.lo db % 4294967296#64).toNat)) one_22 F H rfl rfl rfl rfl) ?_
      rintro xv w' ⟨hx, rfl⟩
      exact ⟨(fun cv hc => hx.trans (Option.some.inj (Option.some.inj hc))), H⟩
    · show Sx.StepAt _ _ _ _ _ _ _ 6
      intro L A w up hun hd F H
      have F := Sx.Fr.to F (kv' := [(21, .int .u64 ((Wd.lo da % 4294967296#64).toNat)), (24, .int .u64 ((Wd.lo db % 4294967296#64).toNat))]) ⟨rfl, rfl, trivial⟩
      refine Sx.step_on rfl (Sx.d_bin (v := .int .u64 (((Wd.lo da % 4294967296#64) + (Wd.lo db % 4294967296#64)).toNat)) F rfl rfl rfl (Sx.i_add64 (Wd.lo da % 4294967296#64) (Wd.lo db % 4294967296#64))) ?_
      rintro xv w' ⟨hx, rfl⟩
      exact ⟨(fun cv hc => hx.trans (Option.some.inj (Option.some.inj hc))), H⟩
    · show Sx.StepAt _ _ _ _ _ _ _ 7
      intro L A w up hun hd F H
      have F := Sx.Fr.to F (kv' := [(8, .int .u64 0)]) ⟨rfl, trivial⟩
      refine Sx.step_on rfl (Sx.d_move F (Or.inl rfl) rfl) ?_
      rintro xv w' ⟨hx, rfl⟩
      exact ⟨(fun cv hc => hx.trans (Option.some.inj (Option.some.inj hc))), H⟩
    · show Sx.StepAt _ _ _ _ _ _ _ 8
      intro L A w up hun hd F H
      have F := Sx.Fr.to F (kv' := [(25, .int .u64 (((Wd.lo da % 4294967296#64) + (Wd.lo db % 4294967296#64)).toNat)), (26, .int .u64 0)]) ⟨rfl, rfl, trivial⟩
      refine Sx.step_on rfl (Sx.d_bin (v := .int .u64 ((((Wd.lo da % 4294967296#64) + (Wd.lo db % 4294967296#64)) + 0#64).toNat)) F rfl rfl rfl (Sx.i_add64 ((Wd.lo da % 4294967296#64) + (Wd.lo db % 4294967296#64)) 0#64)) ?_
      rintro xv w' ⟨hx, rfl⟩
      exact ⟨(fun cv hc => hx.trans (Option.some.inj (Option.some.inj hc))), H⟩
    · show Sx.StepAt _ _ _ _ _ _ _ 9
      intro L A w up hun hd F H
      have F := Sx.Fr.to F (kv' := [(27, .int .u64 ((((Wd.lo da % 4294967296#64) + (Wd.lo db % 4294967296#64)) + 0#64).toNat))]) ⟨rfl, trivial⟩
      refine Sx.step_on rfl (Sx.d_move F (Or.inr rfl) rfl) ?_
      rintro xv w' ⟨hx, rfl⟩
      exact ⟨(fun cv hc => hx.trans (Option.some.inj (Option.some.inj hc))), H⟩
  · intro L A w hL F H
    have F := Sx.Fr.to F (kv' := [(0, .agg #[.int .u64 ((Wd.hi da).toNat), .int .u64 ((Wd.lo da).toNat)]), (1, .agg #[.int .u64 ((Wd.hi db).toNat), .int .u64 ((Wd.lo db).toNat)]), (2, .pointer (some ⟨g1, 0, none⟩)), (3, .pointer (some ⟨g2, 0, none⟩)), (4, .pointer (some ⟨g3, 0, none⟩)), (5, .bool false), (11, .agg #[.int .u64 ((Wd.hi da).toNat), .int .u64 ((Wd.lo da).toNat)]), (12, .agg #[.int .u64 ((Wd.lo da % 4294967296#64).toNat), .int .u64 ((Wd.lo da / 4294967296#64).toNat), .int .u64 ((Wd.hi da % 4294967296#64).toNat), .int .u64 ((Wd.hi da / 4294967296#64).toNat)]), (6, .pointer (some ⟨g4, 0, none⟩)), (13, .agg #[.int .u64 ((Wd.hi db).toNat), .int .u64 ((Wd.lo db).toNat)]), (14, .agg #[.int .u64 ((Wd.lo db % 4294967296#64).toNat), .int .u64 ((Wd.lo db / 4294967296#64).toNat), .int .u64 ((Wd.hi db % 4294967296#64).toNat), .int .u64 ((Wd.hi db / 4294967296#64).toNat)]), (7, .pointer (some ⟨g5, 0, none⟩)), (8, .int .u64 0), (9, .int .i64 0), (15, .int .i64 0), (16, .bool true), (10, .int .u64 ((((Wd.lo da % 4294967296#64) + (Wd.lo db % 4294967296#64)) + 0#64).toNat))]) ⟨rfl, rfl, rfl, rfl, rfl, rfl, rfl, rfl, rfl, rfl, rfl, rfl, rfl, rfl, rfl, rfl, rfl, trivial⟩
    obtain ⟨n0, hn0⟩ : ∃ q, (((Wd.lo da % 4294967296#64) + (Wd.lo db % 4294967296#64)) + 0#64) = q := ⟨_, rfl⟩
    rw [hn0] at F
    refine hK10 _ _ ?_
    refine Sx.seq (fun K11 hK11 => ?_)
    refine Sx.plain ?_
    refine Sx.sv F (Sx.d_move F (Or.inl rfl) rfl) (Sx.wanted_none rfl _) rfl (by decide) (fun A F => ?_)
    refine Sx.sv F (Sx.d_move F (Or.inl rfl) rfl) (Sx.wanted_none rfl _) rfl (by decide) (fun A F => ?_)
    refine Sx.sv F (Sx.d_bin (v := .int .u64 ((n0 % 4294967296#64).toNat)) F rfl rfl rfl (Sx.i_rem64 n0 4294967296#64 (by decide))) (Sx.wanted_none rfl _) rfl (by decide) (fun A F => ?_)
    refine Sx.sv F (Sx.d_iaddr (v := .pointer (some ⟨g4, 0, none⟩)) F rfl rfl rfl (by kernel_rfl)) (Sx.wanted_none rfl _) rfl (by decide) (fun A F => ?_)
    refine Sx.ss F (Sx.d_store (i := 1) (xs := [.int .u64 ((n0 % 4294967296#64).toNat)]) (us := [.int .u64 ((n0 % 4294967296#64).toNat), .int .u64 ((Wd.lo da / 4294967296#64).toNat), .int .u64 ((Wd.hi da % 4294967296#64).toNat), .int .u64 ((Wd.hi da / 4294967296#64).toNat)]) sz_22 F H rfl rfl rfl rfl rfl rfl rfl (Nat.le_of_ble_eq_true rfl) rfl) (Sx.wanted_none rfl _) rfl (fun A w F (H : Sx.Own w0 _ [(true, g5, [.int .u64 ((Wd.lo db % 4294967296#64).toNat), .int .u64 ((Wd.lo db / 4294967296#64).toNat), .int .u64 ((Wd.hi db % 4294967296#64).toNat), .int .u64 ((Wd.hi db / 4294967296#64).toNat)]), (true, g4, [.int .u64 ((n0 % 4294967296#64).toNat), .int .u64 ((Wd.lo da / 4294967296#64).toNat), .int .u64 ((Wd.hi da % 4294967296#64).toNat), .int .u64 ((Wd.hi da / 4294967296#64).toNat)]), (true, g3, [.int .u64 ((Wd.hi 0#128).toNat), .int .u64 ((Wd.lo 0#128).toNat)]), (true, g2, [.int .u64 ((Wd.hi db).toNat), .int .u64 ((Wd.lo db).toNat)]), (true, g1, [.int .u64 ((Wd.hi da).toNat), .int .u64 ((Wd.lo da).toNat)])] []) => ?_)
    refine Sx.nil ?_
    refine hK11 _ _ ?_
    refine Sx.plain ?_
    refine Sx.sv F (Sx.d_move F (Or.inl rfl) rfl) (Sx.wanted_none rfl _) rfl (by decide) (fun A F => ?_)
    refine Sx.sv F (Sx.d_bin (v := .int .u64 ((n0 / 4294967296#64).toNat)) F rfl rfl rfl (Sx.i_quo64 n0 4294967296#64 (by decide))) (Sx.wanted_none rfl _) rfl (by decide) (fun A F => ?_)
    refine Sx.sv F (Sx.d_move F (Or.inr rfl) rfl) (Sx.wanted_none rfl _) rfl (by decide) (fun A F => ?_)
    refine Sx.nil ?_
    refine hK9 _ _ ?_
    refine Sx.plain ?_
    refine Sx.sv F (Sx.d_move F (Or.inl rfl) rfl) (Sx.wanted_none rfl _) rfl (by decide) (fun A F => ?_)
    refine Sx.sv F (Sx.d_bin (v := .int .i64 1) F rfl rfl rfl (Sx.i_addS (by decide))) (Sx.wanted_none rfl _) rfl (by decide) (fun A F => ?_)
    refine Sx.sv F (Sx.d_move F (Or.inr rfl) rfl) (Sx.wanted_none rfl _) rfl (by decide) (fun A F => ?_)
    refine Sx.nil ?_
    try dsimp only [Exit.then]
    rw [rounds_succ]
    refine Sx.seq (fun K12 hK12 => ?_)
    refine Sx.seq (fun K13 hK13 => ?_)
    refine Sx.plain ?_
    refine Sx.sv F (Sx.d_move F (Or.inl rfl) rfl) (Sx.wanted_none rfl _) rfl (by decide) (fun A F => ?_)
    refine Sx.sv F (Sx.d_bin (v := .bool true) F rfl rfl rfl (Sx.i_lt (by decide))) (Sx.wanted_none rfl _) rfl (by decide) (fun A F => ?_)
    refine Sx.nil ?_
    refine hK13 _ _ ?_
    refine Sx.condT F rfl ?_
    refine wp_skip ?_
    refine hK12 _ _ ?_
    refine Sx.seq (fun K14 hK14 => ?_)
    refine wp_block ?_
    refine Sx.seq (fun K15 hK15 => ?_)
    have F := Sx.Fr.to F (kv' := [(0, .agg #[.int .u64 ((Wd.hi da).toNat), .int .u64 ((Wd.lo da).toNat)]), (1, .agg #[.int .u64 ((Wd.hi db).toNat), .int .u64 ((Wd.lo db).toNat)]), (2, .pointer (some ⟨g1, 0, none⟩)), (3, .pointer (some ⟨g2, 0, none⟩)), (4, .pointer (some ⟨g3, 0, none⟩)), (5, .bool false), (11, .agg #[.int .u64 ((Wd.hi da).toNat), .int .u64 ((Wd.lo da).toNat)]), (12, .agg #[.int .u64 ((Wd.lo da % 4294967296#64).toNat), .int .u64 ((Wd.lo da / 4294967296#64).toNat), .int .u64 ((Wd.hi da % 4294967296#64).toNat), .int .u64 ((Wd.hi da / 4294967296#64).toNat)]), (6, .pointer (some ⟨g4, 0, none⟩)), (13, .agg #[.int .u64 ((Wd.hi db).toNat), .int .u64 ((Wd.lo db).toNat)]), (14, .agg #[.int .u64 ((Wd.lo db % 4294967296#64).toNat), .int .u64 ((Wd.lo db / 4294967296#64).toNat), .int .u64 ((Wd.hi db % 4294967296#64).toNat), .int .u64 ((Wd.hi db / 4294967296#64).toNat)]), (7, .pointer (some ⟨g5, 0, none⟩)), (8, .int .u64 ((n0 / 4294967296#64).toNat)), (9, .int .i64 1), (15, .int .i64 1), (16, .bool true), (28, .int .i64 0), (29, .int .u64 n0.toNat), (30, .int .u64 ((n0 % 4294967296#64).toNat)), (31, .pointer (some ⟨g4, 0, none⟩)), (32, .int .u64 n0.toNat), (33, .int .u64 ((n0 / 4294967296#64).toNat)), (17, .int .i64 0), (18, .int .i64 1)]) ⟨rfl, rfl, rfl, rfl, rfl, rfl, rfl, rfl, rfl, rfl, rfl, rfl, rfl, rfl, rfl, rfl, rfl, rfl, rfl, rfl, rfl, rfl, rfl, rfl, trivial⟩
    refine Sx.drawn F (by kernel_rfl) (by kernel_rfl) (by kernel_rfl) [some (.int .i64 1), some (.pointer (some ⟨g4, 1, none⟩)), some (.int .u64 ((Wd.lo da / 4294967296#64).toNat)), some (.int .i64 1), some (.pointer (some ⟨g5, 1, none⟩)), some (.int .u64 ((Wd.lo db / 4294967296#64).toNat)), some (.int .u64 (((Wd.lo da / 4294967296#64) + (Wd.lo db / 4294967296#64)).toNat)), some (.int .u64 ((n0 / 4294967296#64).toNat)), some (.int .u64 ((((Wd.lo da / 4294967296#64) + (Wd.lo db / 4294967296#64)) + (n0 / 4294967296#64)).toNat)), some (.int .u64 ((((Wd.lo da / 4294967296#64) + (Wd.lo db / 4294967296#64)) + (n0 / 4294967296#64)).toNat))] (fun L A w => Sx.Own w0 w [(true, g5, [.int .u64 ((Wd.lo db % 4294967296#64).toNat), .int .u64 ((Wd.lo db / 4294967296#64).toNat), .int .u64 ((Wd.hi db % 4294967296#64).toNat), .int .u64 ((Wd.hi db / 4294967296#64).toNat)]), (true, g4, [.int .u64 ((n0 % 4294967296#64).toNat), .int .u64 ((Wd.lo da / 4294967296#64).toNat), .int .u64 ((Wd.hi da % 4294967296#64).toNat), .int .u64 ((Wd.hi da / 4294967296#64).toNat)]), (true, g3, [.int .u64 ((Wd.hi 0#128).toNat), .int .u64 ((Wd.lo 0#128).toNat)]), (true, g2, [.int .u64 ((Wd.hi db).toNat), .int .u64 ((Wd.lo db).toNat)]), (true, g1, [.int .u64 ((Wd.hi da).toNat), .int .u64 ((Wd.lo da).toNat)])] []) H.drew ?_ ?_
    · refine ⟨?_, ?_, ?_, ?_, ?_, ?_, ?_, ?_, ?_, ?_, trivial⟩
      · show Sx.StepAt _ _ _ _ _ _ _ 0
        intro L A w up hun hd F H
        have F := Sx.Fr.to F (kv' := [(9, .int .i64 1)]) ⟨rfl, trivial⟩
        refine Sx.step_on rfl (Sx.d_move F (Or.inl rfl) rfl) ?_
        rintro xv w' ⟨hx, rfl⟩
        exact ⟨(fun cv hc => hx.trans (Option.some.inj (Option.some.inj hc))), H⟩
      · show Sx.StepAt _ _ _ _ _ _ _ 1
        intro L A w up hun hd F H
        have F := Sx.Fr.to F (kv' := [(6, .pointer (some ⟨g4, 0, none⟩)), (19, .int .i64 1)]) ⟨rfl, rfl, trivial⟩
        refine Sx.step_on rfl (Sx.d_iaddr (v := .pointer (some ⟨g4, 1, none⟩)) F rfl rfl rfl (by kernel_rfl)) ?_
        rintro xv w' ⟨hx, rfl⟩
        exact ⟨(fun cv hc => hx.trans (Option.some.inj (Option.some.inj hc))), H⟩
      · show Sx.StepAt _ _ _ _ _ _ _ 2
        intro L A w up hun hd F H
        have F := Sx.Fr.to F (kv' := [(20, .pointer (some ⟨g4, 1, none⟩))]) ⟨rfl, trivial⟩
        refine Sx.step_on rfl (Sx.d_load1 (i := 1) (v := .int .u64 ((Wd.lo da / 4294967296#64).toNat)) one_22 F H rfl rfl rfl rfl) ?_
        rintro xv w' ⟨hx, rfl⟩
        exact ⟨(fun cv hc => hx.trans (Option.some.inj (Option.some.inj hc))), H⟩
      · show Sx.StepAt _ _ _ _ _ _ _ 3
        intro L A w up hun hd F H
        have F := Sx.Fr.to F (kv' := [(9, .int .i64 1)]) ⟨rfl, trivial⟩
        refine Sx.step_on rfl (Sx.d_move F (Or.inl rfl) rfl) ?_
        rintro xv w' ⟨hx, rfl⟩
        exact ⟨(fun cv hc => hx.trans (Option.some.inj (Option.some.inj hc))), H⟩
      · show Sx.StepAt _ _ _ _ _ _ _ 4
        intro L A w up hun hd F H
        have F := Sx.Fr.to F (kv' := [(7, .pointer (some ⟨g5, 0, none⟩)), (22, .int .i64 1)]) ⟨rfl, rfl, trivial⟩
        refine Sx.step_on rfl (Sx.d_iaddr (v := .pointer (some ⟨g5, 1, none⟩)) F rfl rfl rfl (by kernel_rfl)) ?_
        rintro xv w' ⟨hx, rfl⟩
        exact ⟨(fun cv hc => hx.trans (Option.some.inj (Option.some.inj hc))), H⟩
      · show Sx.StepAt _ _ _ _ _ _ _ 5
        intro L A w up hun hd F H
        have F := Sx.Fr.to F (kv' := [(23, .pointer (some ⟨g5, 1, none⟩))]) ⟨rfl, trivial⟩
        refine Sx.step_on rfl (Sx.d_load1 (i := 0) (v := .int .u64 ((Wd.lo db / 4294967296#64).toNat)) one_22 F H rfl rfl rfl rfl) ?_
        rintro xv w' ⟨hx, rfl⟩
        exact ⟨(fun cv hc => hx.trans (Option.some.inj (Option.some.inj hc))), H⟩
      · show Sx.StepAt _ _ _ _ _ _ _ 6
        intro L A w up hun hd F H
        have F := Sx.Fr.to F (kv' := [(21, .int .u64 ((Wd.lo da / 4294967296#64).toNat)), (24, .int .u64 ((Wd.lo db / 4294967296#64).toNat))]) ⟨rfl, rfl, trivial⟩
        refine Sx.step_on rfl (Sx.d_bin (v := .int .u64 (((Wd.lo da / 4294967296#64) + (Wd.lo db / 4294967296#64)).toNat)) F rfl rfl rfl (Sx.i_add64 (Wd.lo da / 4294967296#64) (Wd.lo db / 4294967296#64))) ?_
        rintro xv w' ⟨hx, rfl⟩
        exact ⟨(fun cv hc => hx.trans (Option.some.inj (Option.some.inj hc))), H⟩
      · show Sx.StepAt _ _ _ _ _ _ _ 7
        intro L A w up hun hd F H
        have F := Sx.Fr.to F (kv' := [(8, .int .u64 ((n0 / 4294967296#64).toNat))]) ⟨rfl, trivial⟩
        refine Sx.step_on rfl (Sx.d_move F (Or.inl rfl) rfl) ?_
        rintro xv w' ⟨hx, rfl⟩
        exact ⟨(fun cv hc => hx.trans (Option.some.inj (Option.some.inj hc))), H⟩
      · show Sx.StepAt _ _ _ _ _ _ _ 8
        intro L A w up hun hd F H
        have F := Sx.Fr.to F (kv' := [(25, .int .u64 (((Wd.lo da / 4294967296#64) + (Wd.lo db / 4294967296#64)).toNat)), (26, .int .u64 ((n0 / 4294967296#64).toNat))]) ⟨rfl, rfl, trivial⟩
        refine Sx.step_on rfl (Sx.d_bin (v := .int .u64 ((((Wd.lo da / 4294967296#64) + (Wd.lo db / 4294967296#64)) + (n0 / 4294967296#64)).toNat)) F rfl rfl rfl (Sx.i_add64 ((Wd.lo da / 4294967296#64) + (Wd.lo db / 4294967296#64)) (n0 / 4294967296#64))) ?_
        rintro xv w' ⟨hx, rfl⟩
        exact ⟨(fun cv hc => hx.trans (Option.some.inj (Option.some.inj hc))), H⟩
      · show Sx.StepAt _ _ _ _ _ _ _ 9
        intro L A w up hun hd F H
        have F := Sx.Fr.to F (kv' := [(27, .int .u64 ((((Wd.lo da / 4294967296#64) + (Wd.lo db / 4294967296#64)) + (n0 / 4294967296#64)).toNat))]) ⟨rfl, trivial⟩
        refine Sx.step_on rfl (Sx.d_move F (Or.inr rfl) rfl) ?_
        rintro xv w' ⟨hx, rfl⟩
        exact ⟨(fun cv hc => hx.trans (Option.some.inj (Option.some.inj hc))), H⟩
    · intro L A w hL F H
      have F := Sx.Fr.to F (kv' := [(0, .agg #[.int .u64 ((Wd.hi da).toNat), .int .u64 ((Wd.lo da).toNat)]), (1, .agg #[.int .u64 ((Wd.hi db).toNat), .int .u64 ((Wd.lo db).toNat)]), (2, .pointer (some ⟨g1, 0, none⟩)), (3, .pointer (some ⟨g2, 0, none⟩)), (4, .pointer (some ⟨g3, 0, none⟩)), (5, .bool false), (11, .agg #[.int .u64 ((Wd.hi da).toNat), .int .u64 ((Wd.lo da).toNat)]), (12, .agg #[.int .u64 ((Wd.lo da % 4294967296#64).toNat), .int .u64 ((Wd.lo da / 4294967296#64).toNat), .int .u64 ((Wd.hi da % 4294967296#64).toNat), .int .u64 ((Wd.hi da / 4294967296#64).toNat)]), (6, .pointer (some ⟨g4, 0, none⟩)), (13, .agg #[.int .u64 ((Wd.hi db).toNat), .int .u64 ((Wd.lo db).toNat)]), (14, .agg #[.int .u64 ((Wd.lo db % 4294967296#64).toNat), .int .u64 ((Wd.lo db / 4294967296#64).toNat), .int .u64 ((Wd.hi db % 4294967296#64).toNat), .int .u64 ((Wd.hi db / 4294967296#64).toNat)]), (7, .pointer (some ⟨g5, 0, none⟩)), (8, .int .u64 ((n0 / 4294967296#64).toNat)), (9, .int .i64 1), (15, .int .i64 1), (16, .bool true), (28, .int .i64 0), (29, .int .u64 n0.toNat), (30, .int .u64 ((n0 % 4294967296#64).toNat)), (31, .pointer (some ⟨g4, 0, none⟩)), (32, .int .u64 n0.toNat), (33, .int .u64 ((n0 / 4294967296#64).toNat)), (17, .int .i64 0), (18, .int .i64 1), (10, .int .u64 ((((Wd.lo da / 4294967296#64) + (Wd.lo db / 4294967296#64)) + (n0 / 4294967296#64)).toNat))]) ⟨rfl, rfl, rfl, rfl, rfl, rfl, rfl, rfl, rfl, rfl, rfl, rfl, rfl, rfl, rfl, rfl, rfl, rfl, rfl, rfl, rfl, rfl, rfl, rfl, rfl, trivial⟩
      obtain ⟨n1, hn1⟩ : ∃ q, (((Wd.lo da / 4294967296#64) + (Wd.lo db / 4294967296#64)) + (n0 / 4294967296#64)) = q := ⟨_, rfl⟩
      rw [hn1] at F
      refine hK15 _ _ ?_
      refine Sx.seq (fun K16 hK16 => ?_)
      refine Sx.plain ?_
      refine Sx.sv F (Sx.d_move F (Or.inl rfl) rfl) (Sx.wanted_none rfl _) rfl (by decide) (fun A F => ?_)
      refine Sx.sv F (Sx.d_move F (Or.inl rfl) rfl) (Sx.wanted_none rfl _) rfl (by decide) (fun A F => ?_)
      refine Sx.sv F (Sx.d_bin (v := .int .u64 ((n1 % 4294967296#64).toNat)) F rfl rfl rfl (Sx.i_rem64 n1 4294967296#64 (by decide))) (Sx.wanted_none rfl _) rfl (by decide) (fun A F => ?_)
      refine Sx.sv F (Sx.d_iaddr (v := .pointer (some ⟨g4, 1, none⟩)) F rfl rfl rfl (by kernel_rfl)) (Sx.wanted_none rfl _) rfl (by decide) (fun A F => ?_)
      refine Sx.ss F (Sx.d_store (i := 1) (xs := [.int .u64 ((n1 % 4294967296#64).toNat)]) (us := [.int .u64 ((n0 % 4294967296#64).toNat), .int .u64 ((n1 % 4294967296#64).toNat), .int .u64 ((Wd.hi da % 4294967296#64).toNat), .int .u64 ((Wd.hi da / 4294967296#64).toNat)]) sz_22 F H rfl rfl rfl rfl rfl rfl rfl (Nat.le_of_ble_eq_true rfl) rfl) (Sx.wanted_none rfl _) rfl (fun A w F (H : Sx.Own w0 _ [(true, g5, [.int .u64 ((Wd.lo db % 4294967296#64).toNat), .int .u64 ((Wd.lo db / 4294967296#64).toNat), .int .u64 ((Wd.hi db % 4294967296#64).toNat), .int .u64 ((Wd.hi db / 4294967296#64).toNat)]), (true, g4, [.int .u64 ((n0 % 4294967296#64).toNat), .int .u64 ((n1 % 4294967296#64).toNat), .int .u64 ((Wd.hi da % 4294967296#64).toNat), .int .u64 ((Wd.hi da / 4294967296#64).toNat)]), (true, g3, [.int .u64 ((Wd.hi 0#128).toNat), .int .u64 ((Wd.lo 0#128).toNat)]), (true, g2, [.int .u64 ((Wd.hi db).toNat), .int .u64 ((Wd.lo db).toNat)]), (true, g1, [.int .u64 ((Wd.hi da).toNat), .int .u64 ((Wd.lo da).toNat)])] []) => ?_)
      refine Sx.nil ?_
      refine hK16 _ _ ?_
      refine Sx.plain ?_
      refine Sx.sv F (Sx.d_move F (Or.inl rfl) rfl) (Sx.wanted_none rfl _) rfl (by decide) (fun A F => ?_)
      refine Sx.sv F (Sx.d_bin (v := .int .u64 ((n1 / 4294967296#64).toNat)) F rfl rfl rfl (Sx.i_quo64 n1 4294967296#64 (by decide))) (Sx.wanted_none rfl _) rfl (by decide) (fun A F => ?_)
      refine Sx.sv F (Sx.d_move F (Or.inr rfl) rfl) (Sx.wanted_none rfl _) rfl (by decide) (fun A F => ?_)
      refine Sx.nil ?_
      refine hK14 _ _ ?_
      refine Sx.plain ?_
      refine Sx.sv F (Sx.d_move F (Or.inl rfl) rfl) (Sx.wanted_none rfl _) rfl (by decide) (fun A F => ?_)
      refine Sx.sv F (Sx.d_bin (v := .int .i64 2) F rfl rfl rfl (Sx.i_addS (by decide))) (Sx.wanted_none rfl _) rfl (by decide) (fun A F => ?_)
      refine Sx.sv F (Sx.d_move F (Or.inr rfl) rfl) (Sx.wanted_none rfl _) rfl (by decide) (fun A F => ?_)
      refine Sx.nil ?_
      try dsimp only [Exit.then]
      rw [rounds_succ]
      refine Sx.seq (fun K17 hK17 => ?_)
      refine Sx.seq (fun K18 hK18 => ?_)
      refine Sx.plain ?_
      refine Sx.sv F (Sx.d_move F (Or.inl rfl) rfl) (Sx.wanted_none rfl _) rfl (by decide) (fun A F => ?_)
      refine Sx.sv F (Sx.d_bin (v := .bool true) F rfl rfl rfl (Sx.i_lt (by decide))) (Sx.wanted_none rfl _) rfl (by decide) (fun A F => ?_)
      refine Sx.nil ?_
      refine hK18 _ _ ?_
      refine Sx.condT F rfl ?_
      refine wp_skip ?_
      refine hK17 _ _ ?_
      refine Sx.seq (fun K19 hK19 => ?_)
      refine wp_block ?_
      refine Sx.seq (fun K20 hK20 => ?_)
      have F := Sx.Fr.to F (kv' := [(0, .agg #[.int .u64 ((Wd.hi da).toNat), .int .u64 ((Wd.lo da).toNat)]), (1, .agg #[.int .u64 ((Wd.hi db).toNat), .int .u64 ((Wd.lo db).toNat)]), (2, .pointer (some ⟨g1, 0, none⟩)), (3, .pointer (some ⟨g2, 0, none⟩)), (4, .pointer (some ⟨g3, 0, none⟩)), (5, .bool false), (11, .agg #[.int .u64 ((Wd.hi da).toNat), .int .u64 ((Wd.lo da).toNat)]), (12, .agg #[.int .u64 ((Wd.lo da % 4294967296#64).toNat), .int .u64 ((Wd.lo da / 4294967296#64).toNat), .int .u64 ((Wd.hi da % 4294967296#64).toNat), .int .u64 ((Wd.hi da / 4294967296#64).toNat)]), (6, .pointer (some ⟨g4, 0, none⟩)), (13, .agg #[.int .u64 ((Wd.hi db).toNat), .int .u64 ((Wd.lo db).toNat)]), (14, .agg #[.int .u64 ((Wd.lo db % 4294967296#64).toNat), .int .u64 ((Wd.lo db / 4294967296#64).toNat), .int .u64 ((Wd.hi db % 4294967296#64).toNat), .int .u64 ((Wd.hi db / 4294967296#64).toNat)]), (7, .pointer (some ⟨g5, 0, none⟩)), (8, .int .u64 ((n1 / 4294967296#64).toNat)), (9, .int .i64 2), (15, .int .i64 2), (16, .bool true), (28, .int .i64 1), (29, .int .u64 n1.toNat), (30, .int .u64 ((n1 % 4294967296#64).toNat)), (31, .pointer (some ⟨g4, 1, none⟩)), (32, .int .u64 n1.toNat), (33, .int .u64 ((n1 / 4294967296#64).toNat)), (17, .int .i64 1), (18, .int .i64 2)]) ⟨rfl, rfl, rfl, rfl, rfl, rfl, rfl, rfl, rfl, rfl, rfl, rfl, rfl, rfl, rfl, rfl, rfl, rfl, rfl, rfl, rfl, rfl, rfl, rfl, trivial⟩
      refine Sx.drawn F (by kernel_rfl) (by kernel_rfl) (by kernel_rfl) [some (.int .i64 2), some (.pointer (some ⟨g4, 2, none⟩)), some (.int .u64 ((Wd.hi da % 4294967296#64).toNat)), some (.int .i64 2), some (.pointer (some ⟨g5, 2, none⟩)), some (.int .u64 ((Wd.hi db % 4294967296#64).toNat)), some (.int .u64 (((Wd.hi da % 4294967296#64) + (Wd.hi db % 4294967296#64)).toNat)), some (.int .u64 ((n1 / 4294967296#64).toNat)), some (.int .u64 ((((Wd.hi da % 4294967296#64) + (Wd.hi db % 4294967296#64)) + (n1 / 4294967296#64)).toNat)), some (.int .u64 ((((Wd.hi da % 4294967296#64) + (Wd.hi db % 4294967296#64)) + (n1 / 4294967296#64)).toNat))] (fun L A w => Sx.Own w0 w [(true, g5, [.int .u64 ((Wd.lo db % 4294967296#64).toNat), .int .u64 ((Wd.lo db / 4294967296#64).toNat), .int .u64 ((Wd.hi db % 4294967296#64).toNat), .int .u64 ((Wd.hi db / 4294967296#64).toNat)]), (true, g4, [.int .u64 ((n0 % 4294967296#64).toNat), .int .u64 ((n1 % 4294967296#64).toNat), .int .u64 ((Wd.hi da % 4294967296#64).toNat), .int .u64 ((Wd.hi da / 4294967296#64).toNat)]), (true, g3, [.int .u64 ((Wd.hi 0#128).toNat), .int .u64 ((Wd.lo 0#128).toNat)]), (true, g2, [.int .u64 ((Wd.hi db).toNat), .int .u64 ((Wd.lo db).toNat)]), (true, g1, [.int .u64 ((Wd.hi da).toNat), .int .u64 ((Wd.lo da).toNat)])] []) H.drew ?_ ?_
      · refine ⟨?_, ?_, ?_, ?_, ?_, ?_, ?_, ?_, ?_, ?_, trivial⟩
        · show Sx.StepAt _ _ _ _ _ _ _ 0
          intro L A w up hun hd F H
          have F := Sx.Fr.to F (kv' := [(9, .int .i64 2)]) ⟨rfl, trivial⟩
          refine Sx.step_on rfl (Sx.d_move F (Or.inl rfl) rfl) ?_
          rintro xv w' ⟨hx, rfl⟩
          exact ⟨(fun cv hc => hx.trans (Option.some.inj (Option.some.inj hc))), H⟩
        · show Sx.StepAt _ _ _ _ _ _ _ 1
          intro L A w up hun hd F H
          have F := Sx.Fr.to F (kv' := [(6, .pointer (some ⟨g4, 0, none⟩)), (19, .int .i64 2)]) ⟨rfl, rfl, trivial⟩
          refine Sx.step_on rfl (Sx.d_iaddr (v := .pointer (some ⟨g4, 2, none⟩)) F rfl rfl rfl (by kernel_rfl)) ?_
          rintro xv w' ⟨hx, rfl⟩
          exact ⟨(fun cv hc => hx.trans (Option.some.inj (Option.some.inj hc))), H⟩
        · show Sx.StepAt _ _ _ _ _ _ _ 2
          intro L A w up hun hd F H
          have F := Sx.Fr.to F (kv' := [(20, .pointer (some ⟨g4, 2, none⟩))]) ⟨rfl, trivial⟩
          refine Sx.step_on rfl (Sx.d_load1 (i := 1) (v := .int .u64 ((Wd.hi da % 4294967296#64).toNat)) one_22 F H rfl rfl rfl rfl) ?_
          rintro xv w' ⟨hx, rfl⟩
          exact ⟨(fun cv hc => hx.trans (Option.some.inj (Option.some.inj hc))), H⟩
        · show Sx.StepAt _ _ _ _ _ _ _ 3
          intro L A w up hun hd F H
          have F := Sx.Fr.to F (kv' := [(9, .int .i64 2)]) ⟨rfl, trivial⟩
          refine Sx.step_on rfl (Sx.d_move F (Or.inl rfl) rfl) ?_
          rintro xv w' ⟨hx, rfl⟩
          exact ⟨(fun cv hc => hx.trans (Option.some.inj (Option.some.inj hc))), H⟩
        · show Sx.StepAt _ _ _ _ _ _ _ 4
          intro L A w up hun hd F H
          have F := Sx.Fr.to F (kv' := [(7, .pointer (some ⟨g5, 0, none⟩)), (22, .int .i64 2)]) ⟨rfl, rfl, trivial⟩
          refine Sx.step_on rfl (Sx.d_iaddr (v := .pointer (some ⟨g5, 2, none⟩)) F rfl rfl rfl (by kernel_rfl)) ?_
          rintro xv w' ⟨hx, rfl⟩
          exact ⟨(fun cv hc => hx.trans (Option.some.inj (Option.some.inj hc))), H⟩
        · show Sx.StepAt _ _ _ _ _ _ _ 5
          intro L A w up hun hd F H
          have F := Sx.Fr.to F (kv' := [(23, .pointer (some ⟨g5, 2, none⟩))]) ⟨rfl, trivial⟩
          refine Sx.step_on rfl (Sx.d_load1 (i := 0) (v := .int .u64 ((Wd.hi db % 4294967296#64).toNat)) one_22 F H rfl rfl rfl rfl) ?_
          rintro xv w' ⟨hx, rfl⟩
          exact ⟨(fun cv hc => hx.trans (Option.some.inj (Option.some.inj hc))), H⟩
        · show Sx.StepAt _ _ _ _ _ _ _ 6
          intro L A w up hun hd F H
          have F := Sx.Fr.to F (kv' := [(21, .int .u64 ((Wd.hi da % 4294967296#64).toNat)), (24, .int .u64 ((Wd.hi db % 4294967296#64).toNat))]) ⟨rfl, rfl, trivial⟩
          refine Sx.step_on rfl (Sx.d_bin (v := .int .u64 (((Wd.hi da % 4294967296#64) + (Wd.hi db % 4294967296#64)).toNat)) F rfl rfl rfl (Sx.i_add64 (Wd.hi da % 4294967296#64) (Wd.hi db % 4294967296#64))) ?_
          rintro xv w' ⟨hx, rfl⟩
          exact ⟨(fun cv hc => hx.trans (Option.some.inj (Option.some.inj hc))), H⟩
        · show Sx.StepAt _ _ _ _ _ _ _ 7
          intro L A w up hun hd F H
          have F := Sx.Fr.to F (kv' := [(8, .int .u64 ((n1 / 4294967296#64).toNat))]) ⟨rfl, trivial⟩
          refine Sx.step_on rfl (Sx.d_move F (Or.inl rfl) rfl) ?_
          rintro xv w' ⟨hx, rfl⟩
          exact ⟨(fun cv hc => hx.trans (Option.some.inj (Option.some.inj hc))), H⟩
        · show Sx.StepAt _ _ _ _ _ _ _ 8
          intro L A w up hun hd F H
          have F := Sx.Fr.to F (kv' := [(25, .int .u64 (((Wd.hi da % 4294967296#64) + (Wd.hi db % 4294967296#64)).toNat)), (26, .int .u64 ((n1 / 4294967296#64).toNat))]) ⟨rfl, rfl, trivial⟩
          refine Sx.step_on rfl (Sx.d_bin (v := .int .u64 ((((Wd.hi da % 4294967296#64) + (Wd.hi db % 4294967296#64)) + (n1 / 4294967296#64)).toNat)) F rfl rfl rfl (Sx.i_add64 ((Wd.hi da % 4294967296#64) + (Wd.hi db % 4294967296#64)) (n1 / 4294967296#64))) ?_
          rintro xv w' ⟨hx, rfl⟩
          exact ⟨(fun cv hc => hx.trans (Option.some.inj (Option.some.inj hc))), H⟩
        · show Sx.StepAt _ _ _ _ _ _ _ 9
          intro L A w up hun hd F H
          have F := Sx.Fr.to F (kv' := [(27, .int .u64 ((((Wd.hi da % 4294967296#64) + (Wd.hi db % 4294967296#64)) + (n1 / 4294967296#64)).toNat))]) ⟨rfl, trivial⟩
          refine Sx.step_on rfl (Sx.d_move F (Or.inr rfl) rfl) ?_
          rintro xv w' ⟨hx, rfl⟩
          exact ⟨(fun cv hc => hx.trans (Option.some.inj (Option.some.inj hc))), H⟩
      · intro L A w hL F H
        have F := Sx.Fr.to F (kv' := [(0, .agg #[.int .u64 ((Wd.hi da).toNat), .int .u64 ((Wd.lo da).toNat)]), (1, .agg #[.int .u64 ((Wd.hi db).toNat), .int .u64 ((Wd.lo db).toNat)]), (2, .pointer (some ⟨g1, 0, none⟩)), (3, .pointer (some ⟨g2, 0, none⟩)), (4, .pointer (some ⟨g3, 0, none⟩)), (5, .bool false), (11, .agg #[.int .u64 ((Wd.hi da).toNat), .int .u64 ((Wd.lo da).toNat)]), (12, .agg #[.int .u64 ((Wd.lo da % 4294967296#64).toNat), .int .u64 ((Wd.lo da / 4294967296#64).toNat), .int .u64 ((Wd.hi da % 4294967296#64).toNat), .int .u64 ((Wd.hi da / 4294967296#64).toNat)]), (6, .pointer (some ⟨g4, 0, none⟩)), (13, .agg #[.int .u64 ((Wd.hi db).toNat), .int .u64 ((Wd.lo db).toNat)]), (14, .agg #[.int .u64 ((Wd.lo db % 4294967296#64).toNat), .int .u64 ((Wd.lo db / 4294967296#64).toNat), .int .u64 ((Wd.hi db % 4294967296#64).toNat), .int .u64 ((Wd.hi db / 4294967296#64).toNat)]), (7, .pointer (some ⟨g5, 0, none⟩)), (8, .int .u64 ((n1 / 4294967296#64).toNat)), (9, .int .i64 2), (15, .int .i64 2), (16, .bool true), (28, .int .i64 1), (29, .int .u64 n1.toNat), (30, .int .u64 ((n1 % 4294967296#64).toNat)), (31, .pointer (some ⟨g4, 1, none⟩)), (32, .int .u64 n1.toNat), (33, .int .u64 ((n1 / 4294967296#64).toNat)), (17, .int .i64 1), (18, .int .i64 2), (10, .int .u64 ((((Wd.hi da % 4294967296#64) + (Wd.hi db % 4294967296#64)) + (n1 / 4294967296#64)).toNat))]) ⟨rfl, rfl, rfl, rfl, rfl, rfl, rfl, rfl, rfl, rfl, rfl, rfl, rfl, rfl, rfl, rfl, rfl, rfl, rfl, rfl, rfl, rfl, rfl, rfl, rfl, trivial⟩
        obtain ⟨n2, hn2⟩ : ∃ q, (((Wd.hi da % 4294967296#64) + (Wd.hi db % 4294967296#64)) + (n1 / 4294967296#64)) = q := ⟨_, rfl⟩
        rw [hn2] at F
        refine hK20 _ _ ?_
        refine Sx.seq (fun K21 hK21 => ?_)
        refine Sx.plain ?_
        refine Sx.sv F (Sx.d_move F (Or.inl rfl) rfl) (Sx.wanted_none rfl _) rfl (by decide) (fun A F => ?_)
        refine Sx.sv F (Sx.d_move F (Or.inl rfl) rfl) (Sx.wanted_none rfl _) rfl (by decide) (fun A F => ?_)
        refine Sx.sv F (Sx.d_bin (v := .int .u64 ((n2 % 4294967296#64).toNat)) F rfl rfl rfl (Sx.i_rem64 n2 4294967296#64 (by decide))) (Sx.wanted_none rfl _) rfl (by decide) (fun A F => ?_)
        refine Sx.sv F (Sx.d_iaddr (v := .pointer (some ⟨g4, 2, none⟩)) F rfl rfl rfl (by kernel_rfl)) (Sx.wanted_none rfl _) rfl (by decide) (fun A F => ?_)
        refine Sx.ss F (Sx.d_store (i := 1) (xs := [.int .u64 ((n2 % 4294967296#64).toNat)]) (us := [.int .u64 ((n0 % 4294967296#64).toNat), .int .u64 ((n1 % 4294967296#64).toNat), .int .u64 ((n2 % 4294967296#64).toNat), .int .u64 ((Wd.hi da / 4294967296#64).toNat)]) sz_22 F H rfl rfl rfl rfl rfl rfl rfl (Nat.le_of_ble_eq_true rfl) rfl) (Sx.wanted_none rfl _) rfl (fun A w F (H : Sx.Own w0 _ [(true, g5, [.int .u64 ((Wd.lo db % 4294967296#64).toNat), .int .u64 ((Wd.lo db / 4294967296#64).toNat), .int .u64 ((Wd.hi db % 4294967296#64).toNat), .int .u64 ((Wd.hi db / 4294967296#64).toNat)]), (true, g4, [.int .u64 ((n0 % 4294967296#64).toNat), .int .u64 ((n1 % 4294967296#64).toNat), .int .u64 ((n2 % 4294967296#64).toNat), .int .u64 ((Wd.hi da / 4294967296#64).toNat)]), (true, g3, [.int .u64 ((Wd.hi 0#128).toNat), .int .u64 ((Wd.lo 0#128).toNat)]), (true, g2, [.int .u64 ((Wd.hi db).toNat), .int .u64 ((Wd.lo db).toNat)]), (true, g1, [.int .u64 ((Wd.hi da).toNat), .int .u64 ((Wd.lo da).toNat)])] []) => ?_)
        refine Sx.nil ?_
        refine hK21 _ _ ?_
        refine Sx.plain ?_
        refine Sx.sv F (Sx.d_move F (Or.inl rfl) rfl) (Sx.wanted_none rfl _) rfl (by decide) (fun A F => ?_)
        refine Sx.sv F (Sx.d_bin (v := .int .u64 ((n2 / 4294967296#64).toNat)) F rfl rfl rfl (Sx.i_quo64 n2 4294967296#64 (by decide))) (Sx.wanted_none rfl _) rfl (by decide) (fun A F => ?_)
        refine Sx.sv F (Sx.d_move F (Or.inr rfl) rfl) (Sx.wanted_none rfl _) rfl (by decide) (fun A F => ?_)
        refine Sx.nil ?_
        refine hK19 _ _ ?_
        refine Sx.plain ?_
        refine Sx.sv F (Sx.d_move F (Or.inl rfl) rfl) (Sx.wanted_none rfl _) rfl (by decide) (fun A F => ?_)
        refine Sx.sv F (Sx.d_bin (v := .int .i64 3) F rfl rfl rfl (Sx.i_addS (by decide))) (Sx.wanted_none rfl _) rfl (by decide) (fun A F => ?_)
        refine Sx.sv F (Sx.d_move F (Or.inr rfl) rfl) (Sx.wanted_none rfl _) rfl (by decide) (fun A F => ?_)
        refine Sx.nil ?_
        try dsimp only [Exit.then]
        rw [rounds_succ]
        refine Sx.seq (fun K22 hK22 => ?_)
        refine Sx.seq (fun K23 hK23 => ?_)
        refine Sx.plain ?_
        refine Sx.sv F (Sx.d_move F (Or.inl rfl) rfl) (Sx.wanted_none rfl _) rfl (by decide) (fun A F => ?_)
        refine Sx.sv F (Sx.d_bin (v := .bool true) F rfl rfl rfl (Sx.i_lt (by decide))) (Sx.wanted_none rfl _) rfl (by decide) (fun A F => ?_)
        refine Sx.nil ?_
        refine hK23 _ _ ?_
        refine Sx.condT F rfl ?_
        refine wp_skip ?_
        refine hK22 _ _ ?_
        refine Sx.seq (fun K24 hK24 => ?_)
        refine wp_block ?_
        refine Sx.seq (fun K25 hK25 => ?_)
        have F := Sx.Fr.to F (kv' := [(0, .agg #[.int .u64 ((Wd.hi da).toNat), .int .u64 ((Wd.lo da).toNat)]), (1, .agg #[.int .u64 ((Wd.hi db).toNat), .int .u64 ((Wd.lo db).toNat)]), (2, .pointer (some ⟨g1, 0, none⟩)), (3, .pointer (some ⟨g2, 0, none⟩)), (4, .pointer (some ⟨g3, 0, none⟩)), (5, .bool false), (11, .agg #[.int .u64 ((Wd.hi da).toNat), .int .u64 ((Wd.lo da).toNat)]), (12, .agg #[.int .u64 ((Wd.lo da % 4294967296#64).toNat), .int .u64 ((Wd.lo da / 4294967296#64).toNat), .int .u64 ((Wd.hi da % 4294967296#64).toNat), .int .u64 ((Wd.hi da / 4294967296#64).toNat)]), (6, .pointer (some ⟨g4, 0, none⟩)), (13, .agg #[.int .u64 ((Wd.hi db).toNat), .int .u64 ((Wd.lo db).toNat)]), (14, .agg #[.int .u64 ((Wd.lo db % 4294967296#64).toNat), .int .u64 ((Wd.lo db / 4294967296#64).toNat), .int .u64 ((Wd.hi db % 4294967296#64).toNat), .int .u64 ((Wd.hi db / 4294967296#64).toNat)]), (7, .pointer (some ⟨g5, 0, none⟩)), (8, .int .u64 ((n2 / 4294967296#64).toNat)), (9, .int .i64 3), (15, .int .i64 3), (16, .bool true), (28, .int .i64 2), (29, .int .u64 n2.toNat), (30, .int .u64 ((n2 % 4294967296#64).toNat)), (31, .pointer (some ⟨g4, 2, none⟩)), (32, .int .u64 n2.toNat), (33, .int .u64 ((n2 / 4294967296#64).toNat)), (17, .int .i64 2), (18, .int .i64 3)]) ⟨rfl, rfl, rfl, rfl, rfl, rfl, rfl, rfl, rfl, rfl, rfl, rfl, rfl, rfl, rfl, rfl, rfl, rfl, rfl, rfl, rfl, rfl, rfl, rfl, trivial⟩
        refine Sx.drawn F (by kernel_rfl) (by kernel_rfl) (by kernel_rfl) [some (.int .i64 3), some (.pointer (some ⟨g4, 3, none⟩)), some (.int .u64 ((Wd.hi da / 4294967296#64).toNat)), some (.int .i64 3), some (.pointer (some ⟨g5, 3, none⟩)), some (.int .u64 ((Wd.hi db / 4294967296#64).toNat)), some (.int .u64 (((Wd.hi da / 4294967296#64) + (Wd.hi db / 4294967296#64)).toNat)), some (.int .u64 ((n2 / 4294967296#64).toNat)), some (.int .u64 ((((Wd.hi da / 4294967296#64) + (Wd.hi db / 4294967296#64)) + (n2 / 4294967296#64)).toNat)), some (.int .u64 ((((Wd.hi da / 4294967296#64) + (Wd.hi db / 4294967296#64)) + (n2 / 4294967296#64)).toNat))] (fun L A w => Sx.Own w0 w [(true, g5, [.int .u64 ((Wd.lo db % 4294967296#64).toNat), .int .u64 ((Wd.lo db / 4294967296#64).toNat), .int .u64 ((Wd.hi db % 4294967296#64).toNat), .int .u64 ((Wd.hi db / 4294967296#64).toNat)]), (true, g4, [.int .u64 ((n0 % 4294967296#64).toNat), .int .u64 ((n1 % 4294967296#64).toNat), .int .u64 ((n2 % 4294967296#64).toNat), .int .u64 ((Wd.hi da / 4294967296#64).toNat)]), (true, g3, [.int .u64 ((Wd.hi 0#128).toNat), .int .u64 ((Wd.lo 0#128).toNat)]), (true, g2, [.int .u64 ((Wd.hi db).toNat), .int .u64 ((Wd.lo db).toNat)]), (true, g1, [.int .u64 ((Wd.hi da).toNat), .int .u64 ((Wd.lo da).toNat)])] []) H.drew ?_ ?_
        · refine ⟨?_, ?_, ?_, ?_, ?_, ?_, ?_, ?_, ?_, ?_, trivial⟩
          · show Sx.StepAt _ _ _ _ _ _ _ 0
            intro L A w up hun hd F H
            have F := Sx.Fr.to F (kv' := [(9, .int .i64 3)]) ⟨rfl, trivial⟩
            refine Sx.step_on rfl (Sx.d_move F (Or.inl rfl) rfl) ?_
            rintro xv w' ⟨hx, rfl⟩
            exact ⟨(fun cv hc => hx.trans (Option.some.inj (Option.some.inj hc))), H⟩
          · show Sx.StepAt _ _ _ _ _ _ _ 1
            intro L A w up hun hd F H
            have F := Sx.Fr.to F (kv' := [(6, .pointer (some ⟨g4, 0, none⟩)), (19, .int .i64 3)]) ⟨rfl, rfl, trivial⟩
            refine Sx.step_on rfl (Sx.d_iaddr (v := .pointer (some ⟨g4, 3, none⟩)) F rfl rfl rfl (by kernel_rfl)) ?_
            rintro xv w' ⟨hx, rfl⟩
            exact ⟨(fun cv hc => hx.trans (Option.some.inj (Option.some.inj hc))), H⟩
          · show Sx.StepAt _ _ _ _ _ _ _ 2
            intro L A w up hun hd F H
            have F := Sx.Fr.to F (kv' := [(20, .pointer (some ⟨g4, 3, none⟩))]) ⟨rfl, trivial⟩
            refine Sx.step_on rfl (Sx.d_load1 (i := 1) (v := .int .u64 ((Wd.hi da / 4294967296#64).toNat)) one_22 F H rfl rfl rfl rfl) ?_
            rintro xv w' ⟨hx, rfl⟩
            exact ⟨(fun cv hc => hx.trans (Option.some.inj (Option.some.inj hc))), H⟩
          · show Sx.StepAt _ _ _ _ _ _ _ 3
            intro L A w up hun hd F H
            have F := Sx.Fr.to F (kv' := [(9, .int .i64 3)]) ⟨rfl, trivial⟩
            refine Sx.step_on rfl (Sx.d_move F (Or.inl rfl) rfl) ?_
            rintro xv w' ⟨hx, rfl⟩
            exact ⟨(fun cv hc => hx.trans (Option.some.inj (Option.some.inj hc))), H⟩
          · show Sx.StepAt _ _ _ _ _ _ _ 4
            intro L A w up hun hd F H
            have F := Sx.Fr.to F (kv' := [(7, .pointer (some ⟨g5, 0, none⟩)), (22, .int .i64 3)]) ⟨rfl, rfl, trivial⟩
            refine Sx.step_on rfl (Sx.d_iaddr (v := .pointer (some ⟨g5, 3, none⟩)) F rfl rfl rfl (by kernel_rfl)) ?_
            rintro xv w' ⟨hx, rfl⟩
            exact ⟨(fun cv hc => hx.trans (Option.some.inj (Option.some.inj hc))), H⟩
          · show Sx.StepAt _ _ _ _ _ _ _ 5
            intro L A w up hun hd F H
            have F := Sx.Fr.to F (kv' := [(23, .pointer (some ⟨g5, 3, none⟩))]) ⟨rfl, trivial⟩
            refine Sx.step_on rfl (Sx.d_load1 (i := 0) (v := .int .u64 ((Wd.hi db / 4294967296#64).toNat)) one_22 F H rfl rfl rfl rfl) ?_
            rintro xv w' ⟨hx, rfl⟩
            exact ⟨(fun cv hc => hx.trans (Option.some.inj (Option.some.inj hc))), H⟩
          · show Sx.StepAt _ _ _ _ _ _ _ 6
            intro L A w up hun hd F H
            have F := Sx.Fr.to F (kv' := [(21, .int .u64 ((Wd.hi da / 4294967296#64).toNat)), (24, .int .u64 ((Wd.hi db / 4294967296#64).toNat))]) ⟨rfl, rfl, trivial⟩
            refine Sx.step_on rfl (Sx.d_bin (v := .int .u64 (((Wd.hi da / 4294967296#64) + (Wd.hi db / 4294967296#64)).toNat)) F rfl rfl rfl (Sx.i_add64 (Wd.hi da / 4294967296#64) (Wd.hi db / 4294967296#64))) ?_
            rintro xv w' ⟨hx, rfl⟩
            exact ⟨(fun cv hc => hx.trans (Option.some.inj (Option.some.inj hc))), H⟩
          · show Sx.StepAt _ _ _ _ _ _ _ 7
            intro L A w up hun hd F H
            have F := Sx.Fr.to F (kv' := [(8, .int .u64 ((n2 / 4294967296#64).toNat))]) ⟨rfl, trivial⟩
            refine Sx.step_on rfl (Sx.d_move F (Or.inl rfl) rfl) ?_
            rintro xv w' ⟨hx, rfl⟩
            exact ⟨(fun cv hc => hx.trans (Option.some.inj (Option.some.inj hc))), H⟩
          · show Sx.StepAt _ _ _ _ _ _ _ 8
            intro L A w up hun hd F H
            have F := Sx.Fr.to F (kv' := [(25, .int .u64 (((Wd.hi da / 4294967296#64) + (Wd.hi db / 4294967296#64)).toNat)), (26, .int .u64 ((n2 / 4294967296#64).toNat))]) ⟨rfl, rfl, trivial⟩
            refine Sx.step_on rfl (Sx.d_bin (v := .int .u64 ((((Wd.hi da / 4294967296#64) + (Wd.hi db / 4294967296#64)) + (n2 / 4294967296#64)).toNat)) F rfl rfl rfl (Sx.i_add64 ((Wd.hi da / 4294967296#64) + (Wd.hi db / 4294967296#64)) (n2 / 4294967296#64))) ?_
            rintro xv w' ⟨hx, rfl⟩
            exact ⟨(fun cv hc => hx.trans (Option.some.inj (Option.some.inj hc))), H⟩
          · show Sx.StepAt _ _ _ _ _ _ _ 9
            intro L A w up hun hd F H
            have F := Sx.Fr.to F (kv' := [(27, .int .u64 ((((Wd.hi da / 4294967296#64) + (Wd.hi db / 4294967296#64)) + (n2 / 4294967296#64)).toNat))]) ⟨rfl, trivial⟩
            refine Sx.step_on rfl (Sx.d_move F (Or.inr rfl) rfl) ?_
            rintro xv w' ⟨hx, rfl⟩
            exact ⟨(fun cv hc => hx.trans (Option.some.inj (Option.some.inj hc))), H⟩
        · intro L A w hL F H
          have F := Sx.Fr.to F (kv' := [(0, .agg #[.int .u64 ((Wd.hi da).toNat), .int .u64 ((Wd.lo da).toNat)]), (1, .agg #[.int .u64 ((Wd.hi db).toNat), .int .u64 ((Wd.lo db).toNat)]), (2, .pointer (some ⟨g1, 0, none⟩)), (3, .pointer (some ⟨g2, 0, none⟩)), (4, .pointer (some ⟨g3, 0, none⟩)), (5, .bool false), (11, .agg #[.int .u64 ((Wd.hi da).toNat), .int .u64 ((Wd.lo da).toNat)]), (12, .agg #[.int .u64 ((Wd.lo da % 4294967296#64).toNat), .int .u64 ((Wd.lo da / 4294967296#64).toNat), .int .u64 ((Wd.hi da % 4294967296#64).toNat), .int .u64 ((Wd.hi da / 4294967296#64).toNat)]), (6, .pointer (some ⟨g4, 0, none⟩)), (13, .agg #[.int .u64 ((Wd.hi db).toNat), .int .u64 ((Wd.lo db).toNat)]), (14, .agg #[.int .u64 ((Wd.lo db % 4294967296#64).toNat), .int .u64 ((Wd.lo db / 4294967296#64).toNat), .int .u64 ((Wd.hi db % 4294967296#64).toNat), .int .u64 ((Wd.hi db / 4294967296#64).toNat)]), (7, .pointer (some ⟨g5, 0, none⟩)), (8, .int .u64 ((n2 / 4294967296#64).toNat)), (9, .int .i64 3), (15, .int .i64 3), (16, .bool true), (28, .int .i64 2), (29, .int .u64 n2.toNat), (30, .int .u64 ((n2 % 4294967296#64).toNat)), (31, .pointer (some ⟨g4, 2, none⟩)), (32, .int .u64 n2.toNat), (33, .int .u64 ((n2 / 4294967296#64).toNat)), (17, .int .i64 2), (18, .int .i64 3), (10, .int .u64 ((((Wd.hi da / 4294967296#64) + (Wd.hi db / 4294967296#64)) + (n2 / 4294967296#64)).toNat))]) ⟨rfl, rfl, rfl, rfl, rfl, rfl, rfl, rfl, rfl, rfl, rfl, rfl, rfl, rfl, rfl, rfl, rfl, rfl, rfl, rfl, rfl, rfl, rfl, rfl, rfl, trivial⟩
          obtain ⟨n3, hn3⟩ : ∃ q, (((Wd.hi da / 4294967296#64) + (Wd.hi db / 4294967296#64)) + (n2 / 4294967296#64)) = q := ⟨_, rfl⟩
          rw [hn3] at F
          refine hK25 _ _ ?_
          refine Sx.seq (fun K26 hK26 => ?_)
          refine Sx.plain ?_
          refine Sx.sv F (Sx.d_move F (Or.inl rfl) rfl) (Sx.wanted_none rfl _) rfl (by decide) (fun A F => ?_)
          refine Sx.sv F (Sx.d_move F (Or.inl rfl) rfl) (Sx.wanted_none rfl _) rfl (by decide) (fun A F => ?_)
          refine Sx.sv F (Sx.d_bin (v := .int .u64 ((n3 % 4294967296#64).toNat)) F rfl rfl rfl (Sx.i_rem64 n3 4294967296#64 (by decide))) (Sx.wanted_none rfl _) rfl (by decide) (fun A F => ?_)
          refine Sx.sv F (Sx.d_iaddr (v := .pointer (some ⟨g4, 3, none⟩)) F rfl rfl rfl (by kernel_rfl)) (Sx.wanted_none rfl _) rfl (by decide) (fun A F => ?_)
          refine Sx.ss F (Sx.d_store (i := 1) (xs := [.int .u64 ((n3 % 4294967296#64).toNat)]) (us := [.int .u64 ((n0 % 4294967296#64).toNat), .int .u64 ((n1 % 4294967296#64).toNat), .int .u64 ((n2 % 4294967296#64).toNat), .int .u64 ((n3 % 4294967296#64).toNat)]) sz_22 F H rfl rfl rfl rfl rfl rfl rfl (Nat.le_of_ble_eq_true rfl) rfl) (Sx.wanted_none rfl _) rfl (fun A w F (H : Sx.Own w0 _ [(true, g5, [.int .u64 ((Wd.lo db % 4294967296#64).toNat), .int .u64 ((Wd.lo db / 4294967296#64).toNat), .int .u64 ((Wd.hi db % 4294967296#64).toNat), .int .u64 ((Wd.hi db / 4294967296#64).toNat)]), (true, g4, [.int .u64 ((n0 % 4294967296#64).toNat), .int .u64 ((n1 % 4294967296#64).toNat), .int .u64 ((n2 % 4294967296#64).toNat), .int .u64 ((n3 % 4294967296#64).toNat)]), (true, g3, [.int .u64 ((Wd.hi 0#128).toNat), .int .u64 ((Wd.lo 0#128).toNat)]), (true, g2, [.int .u64 ((Wd.hi db).toNat), .int .u64 ((Wd.lo db).toNat)]), (true, g1, [.int .u64 ((Wd.hi da).toNat), .int .u64 ((Wd.lo da).toNat)])] []) => ?_)
          refine Sx.nil ?_
          refine hK26 _ _ ?_
          refine Sx.plain ?_
          refine Sx.sv F (Sx.d_move F (Or.inl rfl) rfl) (Sx.wanted_none rfl _) rfl (by decide) (fun A F => ?_)
          refine Sx.sv F (Sx.d_bin (v := .int .u64 ((n3 / 4294967296#64).toNat)) F rfl rfl rfl (Sx.i_quo64 n3 4294967296#64 (by decide))) (Sx.wanted_none rfl _) rfl (by decide) (fun A F => ?_)
          refine Sx.sv F (Sx.d_move F (Or.inr rfl) rfl) (Sx.wanted_none rfl _) rfl (by decide) (fun A F => ?_)
          refine Sx.nil ?_
          refine hK24 _ _ ?_
          refine Sx.plain ?_
          refine Sx.sv F (Sx.d_move F (Or.inl rfl) rfl) (Sx.wanted_none rfl _) rfl (by decide) (fun A F => ?_)
          refine Sx.sv F (Sx.d_bin (v := .int .i64 4) F rfl rfl rfl (Sx.i_addS (by decide))) (Sx.wanted_none rfl _) rfl (by decide) (fun A F => ?_)
          refine Sx.sv F (Sx.d_move F (Or.inr rfl) rfl) (Sx.wanted_none rfl _) rfl (by decide) (fun A F => ?_)
          refine Sx.nil ?_
          try dsimp only [Exit.then]
          rw [rounds_succ]
          refine Sx.seq (fun K27 hK27 => ?_)
          refine Sx.seq (fun K28 hK28 => ?_)
          refine Sx.plain ?_
          refine Sx.sv F (Sx.d_move F (Or.inl rfl) rfl) (Sx.wanted_none rfl _) rfl (by decide) (fun A F => ?_)
          refine Sx.sv F (Sx.d_bin (v := .bool false) F rfl rfl rfl (Sx.i_lt (by decide))) (Sx.wanted_none rfl _) rfl (by decide) (fun A F => ?_)
          refine Sx.nil ?_
          refine hK28 _ _ ?_
          refine Sx.condF F rfl ?_
          refine wp_exit ?_
          try dsimp only [Exit.then, Exit.jump]
          refine Sx.exit_here ?_
          refine hK5 _ _ ?_
          refine Sx.seq (fun K29 hK29 => ?_)
          refine Sx.plain ?_
          refine Sx.sv F (Sx.d_load (i := 1) (xs := [.int .u64 ((n0 % 4294967296#64).toNat), .int .u64 ((n1 % 4294967296#64).toNat), .int .u64 ((n2 % 4294967296#64).toNat), .int .u64 ((n3 % 4294967296#64).toNat)]) rw_92 F H rfl rfl rfl rfl rfl) (Sx.wanted_none rfl _) rfl (by decide) (fun A F => ?_)
          refine Sx.sw F (Sx.d_call (vs := [.agg #[.int .u64 ((n0 % 4294967296#64).toNat), .int .u64 ((n1 % 4294967296#64).toNat), .int .u64 ((n2 % 4294967296#64).toNat), .int .u64 ((n3 % 4294967296#64).toNat)]]) (v := .agg #[.int .u64 ((Wd.hi (Wd.mk ((n2 % 4294967296#64) + 4294967296#64 * (n3 % 4294967296#64)) ((n0 % 4294967296#64) + 4294967296#64 * (n1 % 4294967296#64)))).toNat), .int .u64 ((Wd.lo (Wd.mk ((n2 % 4294967296#64) + 4294967296#64 * (n3 % 4294967296#64)) ((n0 % 4294967296#64) + 4294967296#64 * (n1 % 4294967296#64)))).toNat)]) if_57 F H rfl rfl (rwhole_c (n0 % 4294967296#64) (n1 % 4294967296#64) (n2 % 4294967296#64) (n3 % 4294967296#64) _)) (Sx.wanted_none rfl _) rfl (by decide) (fun A w F H => ?_)
          refine Sx.sv F (Sx.d_move F (Or.inl rfl) rfl) (Sx.wanted_none rfl _) rfl (by decide) (fun A F => ?_)
          refine Sx.sv F (Sx.d_bin (v := .bool (((n3 / 4294967296#64).toNat : Int) == 1)) F rfl rfl rfl (Sx.i_eq rfl)) (Sx.wanted_none rfl _) rfl (by decide) (fun A F => ?_)
          refine Sx.ss F (Sx.d_store (i := 2) (xs := [.int .u64 ((Wd.hi (Wd.mk ((n2 % 4294967296#64) + 4294967296#64 * (n3 % 4294967296#64)) ((n0 % 4294967296#64) + 4294967296#64 * (n1 % 4294967296#64)))).toNat), .int .u64 ((Wd.lo (Wd.mk ((n2 % 4294967296#64) + 4294967296#64 * (n3 % 4294967296#64)) ((n0 % 4294967296#64) + 4294967296#64 * (n1 % 4294967296#64)))).toNat)]) (us := [.int .u64 ((Wd.hi (Wd.mk ((n2 % 4294967296#64) + 4294967296#64 * (n3 % 4294967296#64)) ((n0 % 4294967296#64) + 4294967296#64 * (n1 % 4294967296#64)))).toNat), .int .u64 ((Wd.lo (Wd.mk ((n2 % 4294967296#64) + 4294967296#64 * (n3 % 4294967296#64)) ((n0 % 4294967296#64) + 4294967296#64 * (n1 % 4294967296#64)))).toNat)]) sz_43 F H rfl rfl rfl rfl rfl rfl rfl (Nat.le_of_ble_eq_true rfl) rfl) (Sx.wanted_none rfl _) rfl (fun A w F (H : Sx.Own w0 _ [(true, g5, [.int .u64 ((Wd.lo db % 4294967296#64).toNat), .int .u64 ((Wd.lo db / 4294967296#64).toNat), .int .u64 ((Wd.hi db % 4294967296#64).toNat), .int .u64 ((Wd.hi db / 4294967296#64).toNat)]), (true, g4, [.int .u64 ((n0 % 4294967296#64).toNat), .int .u64 ((n1 % 4294967296#64).toNat), .int .u64 ((n2 % 4294967296#64).toNat), .int .u64 ((n3 % 4294967296#64).toNat)]), (true, g3, [.int .u64 ((Wd.hi (Wd.mk ((n2 % 4294967296#64) + 4294967296#64 * (n3 % 4294967296#64)) ((n0 % 4294967296#64) + 4294967296#64 * (n1 % 4294967296#64)))).toNat), .int .u64 ((Wd.lo (Wd.mk ((n2 % 4294967296#64) + 4294967296#64 * (n3 % 4294967296#64)) ((n0 % 4294967296#64) + 4294967296#64 * (n1 % 4294967296#64)))).toNat)]), (true, g2, [.int .u64 ((Wd.hi db).toNat), .int .u64 ((Wd.lo db).toNat)]), (true, g1, [.int .u64 ((Wd.hi da).toNat), .int .u64 ((Wd.lo da).toNat)])] []) => ?_)
          refine Sx.sv F (Sx.d_move F (Or.inr rfl) rfl) (Sx.wanted_none rfl _) rfl (by decide) (fun A F => ?_)
          refine Sx.nil ?_
          refine hK29 _ _ ?_
          refine wp_ret ?_
          try dsimp only [Exit.then, Exit.inBlock, Exit.jump]
          refine Sx.ret2 F Try.results23 (Sx.res_row (i := 2) (xs := [.int .u64 ((Wd.hi (Wd.mk ((n2 % 4294967296#64) + 4294967296#64 * (n3 % 4294967296#64)) ((n0 % 4294967296#64) + 4294967296#64 * (n1 % 4294967296#64)))).toNat), .int .u64 ((Wd.lo (Wd.mk ((n2 % 4294967296#64) + 4294967296#64 * (n3 % 4294967296#64)) ((n0 % 4294967296#64) + 4294967296#64 * (n1 % 4294967296#64)))).toNat)]) rw_43 F H rfl rfl rfl rfl) (Sx.res_tmp (v := .bool (((n3 / 4294967296#64).toNat : Int) == 1)) F rfl) ⟨?_, H.below⟩
          obtain ⟨k1, k2⟩ := R1.add_dig da db n0 n1 n2 n3 hn0 hn1 hn2 hn3; rw [k1, k2]
end Go.Proofs.Ytpbdffmgendboab
