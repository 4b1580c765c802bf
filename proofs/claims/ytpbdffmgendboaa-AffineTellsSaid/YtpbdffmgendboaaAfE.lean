/- The law's own calls (affine): each answers as the law asks. -/
import Derived.Test.YtpbdffmgendboaaSxE
import Derived.Test.YtpbdffmgendboaaAfC
import Derived.Test.YtpbdffmgendboaaAfD
namespace Go.Proofs.Ytpbdffmgendboaa
open Go Go.RowKit
set_option maxHeartbeats 4000000 in
set_option maxRecDepth 100000 in
theorem awake09_c  (w0 : World) : Calls Try.prog 15 #[] w0 fun e w' => e = .returned (.bool true) ∧ Below w0.heap.size w0 w' := by
  refine Sx.enter (args := []) Try.func15 rfl Try.ntmps15 (Nat.le_of_ble_eq_true rfl) (fun A F => ?_)
  have H := Sx.Own.start w0
  refine Sx.seq (fun K1 hK1 => ?_)
  refine Sx.plain ?_
  refine Sx.sv F (Sx.d_move F (Or.inr rfl) rfl) (Sx.wanted_none rfl _) rfl (by decide) (fun A F => ?_)
  refine Sx.nil ?_
  refine hK1 _ _ ?_
  refine Sx.seq (fun K2 hK2 => ?_)
  refine Sx.plain ?_
  refine Sx.sw F (Sx.d_call (vs := [.int .u64 3]) (v := .agg #[.int .u64 ((Wd.hi 3#128).toNat), .int .u64 ((Wd.lo 3#128).toNat)]) if_29 F H rfl rfl (Calls.val (wofV_c 3#64 _) (by kernel_rfl) (by kernel_rfl))) (Sx.wanted_none rfl _) rfl (by decide) (fun A w F H => ?_)
  refine Sx.sw F (Sx.d_call (vs := [.int .u64 1]) (v := .agg #[.int .u64 ((Wd.hi 1#128).toNat), .int .u64 ((Wd.lo 1#128).toNat)]) if_29 F H rfl rfl (Calls.val (wofV_c 1#64 _) (by kernel_rfl) (by kernel_rfl))) (Sx.wanted_none rfl _) rfl (by decide) (fun A w F H => ?_)
  refine Sx.sv F (Sx.d_build (qs := #[(0, .agg #[.int .u64 ((Wd.hi 3#128).toNat), .int .u64 ((Wd.lo 3#128).toNat)]), (1, .agg #[.int .u64 ((Wd.hi 1#128).toNat), .int .u64 ((Wd.lo 1#128).toNat)])]) (v := .agg #[.int .u64 ((Wd.hi 3#128).toNat), .int .u64 ((Wd.lo 3#128).toNat), .int .u64 ((Wd.hi 1#128).toNat), .int .u64 ((Wd.lo 1#128).toNat)]) F rfl rfl (by kernel_rfl)) (Sx.wanted_none rfl _) rfl (by decide) (fun A F => ?_)
  refine Sx.sb F (Sx.d_alloc H rfl [.int .u64 ((Wd.hi 0#128).toNat), .int .u64 ((Wd.lo 0#128).toNat), .int .u64 ((Wd.hi 0#128).toNat), .int .u64 ((Wd.lo 0#128).toNat)] zero_26) (Sx.wanted_none rfl _) rfl (by decide) (fun g1 A w F H => ?_)
  refine Sx.ss F (Sx.d_store (i := 0) (xs := [.int .u64 ((Wd.hi 3#128).toNat), .int .u64 ((Wd.lo 3#128).toNat), .int .u64 ((Wd.hi 1#128).toNat), .int .u64 ((Wd.lo 1#128).toNat)]) (us := [.int .u64 ((Wd.hi 3#128).toNat), .int .u64 ((Wd.lo 3#128).toNat), .int .u64 ((Wd.hi 1#128).toNat), .int .u64 ((Wd.lo 1#128).toNat)]) sz_26 F H rfl rfl rfl rfl rfl rfl rfl (Nat.le_of_ble_eq_true rfl) rfl) (Sx.wanted_none rfl _) rfl (fun A w F (H : Sx.Own w0 _ [(true, g1, [.int .u64 ((Wd.hi 3#128).toNat), .int .u64 ((Wd.lo 3#128).toNat), .int .u64 ((Wd.hi 1#128).toNat), .int .u64 ((Wd.lo 1#128).toNat)])] []) => ?_)
  refine Sx.nil ?_
  refine hK2 _ _ ?_
  refine Sx.seq (fun K3 hK3 => ?_)
  refine Sx.plain ?_
  refine Sx.sv F (Sx.d_load (i := 0) (xs := [.int .u64 ((Wd.hi 3#128).toNat), .int .u64 ((Wd.lo 3#128).toNat), .int .u64 ((Wd.hi 1#128).toNat), .int .u64 ((Wd.lo 1#128).toNat)]) rw_26 F H rfl rfl rfl rfl rfl) (Sx.wanted_none rfl _) rfl (by decide) (fun A F => ?_)
  refine Sx.sw F (Sx.d_call (vs := [.agg #[.int .u64 ((Wd.hi 3#128).toNat), .int .u64 ((Wd.lo 3#128).toNat), .int .u64 ((Wd.hi 1#128).toNat), .int .u64 ((Wd.lo 1#128).toNat)]]) (v := .tuple #[.agg #[.int .u64 ((Wd.hi (Af.inv 3#128)).toNat), .int .u64 ((Wd.lo (Af.inv 3#128)).toNat), .int .u64 ((Wd.hi (Af.inv 3#128 * (0#128 - 1#128))).toNat), .int .u64 ((Wd.lo (Af.inv 3#128 * (0#128 - 1#128))).toNat)], .int .i64 0]) if_18 F H rfl rfl (ainv_ok 3#128 1#128 (by kernel_rfl) _)) (Sx.wanted_none rfl _) rfl (by decide) (fun A w F H => ?_)
  refine Sx.sv F (Sx.d_move F (Or.inl rfl) rfl) (Sx.wanted_none rfl _) rfl (by decide) (fun A F => ?_)
  refine Sx.sv F (Sx.d_extract (v := .agg #[.int .u64 ((Wd.hi (Af.inv 3#128)).toNat), .int .u64 ((Wd.lo (Af.inv 3#128)).toNat), .int .u64 ((Wd.hi (Af.inv 3#128 * (0#128 - 1#128))).toNat), .int .u64 ((Wd.lo (Af.inv 3#128 * (0#128 - 1#128))).toNat)]) F rfl rfl rfl) (Sx.wanted_none rfl _) rfl (by decide) (fun A F => ?_)
  refine Sx.sv F (Sx.d_extract (v := .int .i64 0) F rfl rfl rfl) (Sx.wanted_none rfl _) rfl (by decide) (fun A F => ?_)
  refine Sx.sb F (Sx.d_alloc H rfl [.int .u64 ((Wd.hi 0#128).toNat), .int .u64 ((Wd.lo 0#128).toNat), .int .u64 ((Wd.hi 0#128).toNat), .int .u64 ((Wd.lo 0#128).toNat)] zero_26) (Sx.wanted_none rfl _) rfl (by decide) (fun g2 A w F H => ?_)
  refine Sx.ss F (Sx.d_store (i := 0) (xs := [.int .u64 ((Wd.hi (Af.inv 3#128)).toNat), .int .u64 ((Wd.lo (Af.inv 3#128)).toNat), .int .u64 ((Wd.hi (Af.inv 3#128 * (0#128 - 1#128))).toNat), .int .u64 ((Wd.lo (Af.inv 3#128 * (0#128 - 1#128))).toNat)]) (us := [.int .u64 ((Wd.hi (Af.inv 3#128)).toNat), .int .u64 ((Wd.lo (Af.inv 3#128)).toNat), .int .u64 ((Wd.hi (Af.inv 3#128 * (0#128 - 1#128))).toNat), .int .u64 ((Wd.lo (Af.inv 3#128 * (0#128 - 1#128))).toNat)]) sz_26 F H rfl rfl rfl rfl rfl rfl rfl (Nat.le_of_ble_eq_true rfl) rfl) (Sx.wanted_none rfl _) rfl (fun A w F (H : Sx.Own w0 _ [(true, g2, [.int .u64 ((Wd.hi (Af.inv 3#128)).toNat), .int .u64 ((Wd.lo (Af.inv 3#128)).toNat), .int .u64 ((Wd.hi (Af.inv 3#128 * (0#128 - 1#128))).toNat), .int .u64 ((Wd.lo (Af.inv 3#128 * (0#128 - 1#128))).toNat)]), (true, g1, [.int .u64 ((Wd.hi 3#128).toNat), .int .u64 ((Wd.lo 3#128).toNat), .int .u64 ((Wd.hi 1#128).toNat), .int .u64 ((Wd.lo 1#128).toNat)])] []) => ?_)
  refine Sx.sv F (Sx.d_move F (Or.inr rfl) rfl) (Sx.wanted_none rfl _) rfl (by decide) (fun A F => ?_)
  refine Sx.nil ?_
  refine hK3 _ _ ?_
  refine Sx.seq (fun K4 hK4 => ?_)
  refine Sx.plain ?_
  refine Sx.sw F (Sx.d_call (vs := [.int .u64 2]) (v := .agg #[.int .u64 ((Wd.hi 2#128).toNat), .int .u64 ((Wd.lo 2#128).toNat)]) if_29 F H rfl rfl (Calls.val (wofV_c 2#64 _) (by kernel_rfl) (by kernel_rfl))) (Sx.wanted_none rfl _) rfl (by decide) (fun A w F H => ?_)
  refine Sx.sv F (Sx.d_build (qs := #[(0, .agg #[.int .u64 ((Wd.hi 2#128).toNat), .int .u64 ((Wd.lo 2#128).toNat)])]) (v := .agg #[.int .u64 ((Wd.hi 2#128).toNat), .int .u64 ((Wd.lo 2#128).toNat), .int .u64 ((Wd.hi 0#128).toNat), .int .u64 ((Wd.lo 0#128).toNat)]) F rfl rfl (by kernel_rfl)) (Sx.wanted_none rfl _) rfl (by decide) (fun A F => ?_)
  refine Sx.sw F (Sx.d_call (vs := [.agg #[.int .u64 ((Wd.hi 2#128).toNat), .int .u64 ((Wd.lo 2#128).toNat), .int .u64 ((Wd.hi 0#128).toNat), .int .u64 ((Wd.lo 0#128).toNat)]]) (v := .tuple #[.agg #[.int .u64 ((Wd.hi 0#128).toNat), .int .u64 ((Wd.lo 0#128).toNat), .int .u64 ((Wd.hi 0#128).toNat), .int .u64 ((Wd.lo 0#128).toNat)], .int .i64 1]) if_18 F H rfl rfl (Calls.val (ainv_no 2#128 0#128 (by kernel_rfl) _) rfl (by kernel_rfl))) (Sx.wanted_none rfl _) rfl (by decide) (fun A w F H => ?_)
  refine Sx.sv F (Sx.d_move F (Or.inl rfl) rfl) (Sx.wanted_none rfl _) rfl (by decide) (fun A F => ?_)
  refine Sx.sv F (Sx.d_extract (v := .agg #[.int .u64 ((Wd.hi 0#128).toNat), .int .u64 ((Wd.lo 0#128).toNat), .int .u64 ((Wd.hi 0#128).toNat), .int .u64 ((Wd.lo 0#128).toNat)]) F rfl rfl rfl) (Sx.wanted_none rfl _) rfl (by decide) (fun A F => ?_)
  refine Sx.sv F (Sx.d_extract (v := .int .i64 1) F rfl rfl rfl) (Sx.wanted_none rfl _) rfl (by decide) (fun A F => ?_)
  refine Sx.sb F (Sx.d_alloc H rfl [.int .u64 ((Wd.hi 0#128).toNat), .int .u64 ((Wd.lo 0#128).toNat), .int .u64 ((Wd.hi 0#128).toNat), .int .u64 ((Wd.lo 0#128).toNat)] zero_26) (Sx.wanted_none rfl _) rfl (by decide) (fun g3 A w F H => ?_)
  refine Sx.ss F (Sx.d_store (i := 0) (xs := [.int .u64 ((Wd.hi 0#128).toNat), .int .u64 ((Wd.lo 0#128).toNat), .int .u64 ((Wd.hi 0#128).toNat), .int .u64 ((Wd.lo 0#128).toNat)]) (us := [.int .u64 ((Wd.hi 0#128).toNat), .int .u64 ((Wd.lo 0#128).toNat), .int .u64 ((Wd.hi 0#128).toNat), .int .u64 ((Wd.lo 0#128).toNat)]) sz_26 F H rfl rfl rfl rfl rfl rfl rfl (Nat.le_of_ble_eq_true rfl) rfl) (Sx.wanted_none rfl _) rfl (fun A w F (H : Sx.Own w0 _ [(true, g3, [.int .u64 ((Wd.hi 0#128).toNat), .int .u64 ((Wd.lo 0#128).toNat), .int .u64 ((Wd.hi 0#128).toNat), .int .u64 ((Wd.lo 0#128).toNat)]), (true, g2, [.int .u64 ((Wd.hi (Af.inv 3#128)).toNat), .int .u64 ((Wd.lo (Af.inv 3#128)).toNat), .int .u64 ((Wd.hi (Af.inv 3#128 * (0#128 - 1#128))).toNat), .int .u64 ((Wd.lo (Af.inv 3#128 * (0#128 - 1#128))).toNat)]), (true, g1, [.int .u64 ((Wd.hi 3#128).toNat), .int .u64 ((Wd.lo 3#128).toNat), .int .u64 ((Wd.hi 1#128).toNat), .int .u64 ((Wd.lo 1#128).toNat)])] []) => ?_)
  refine Sx.sv F (Sx.d_move F (Or.inr rfl) rfl) (Sx.wanted_none rfl _) rfl (by decide) (fun A F => ?_)
  refine Sx.nil ?_
  refine hK4 _ _ ?_
  refine Sx.seq (fun K5 hK5 => ?_)
  refine Sx.plain ?_
  refine Sx.sw F (Sx.d_call (vs := [.int .u64 18446744073709551615]) (v := .agg #[.int .u64 ((Wd.hi 18446744073709551615#128).toNat), .int .u64 ((Wd.lo 18446744073709551615#128).toNat)]) if_29 F H rfl rfl (Calls.val (wofV_c 18446744073709551615#64 _) (by kernel_rfl) (by kernel_rfl))) (Sx.wanted_none rfl _) rfl (by decide) (fun A w F H => ?_)
  refine Sx.sw F (Sx.d_call (vs := [.agg #[.int .u64 ((Wd.hi 18446744073709551615#128).toNat), .int .u64 ((Wd.lo 18446744073709551615#128).toNat)]]) (v := .tuple #[.agg #[.int .u64 ((Wd.hi (Af.inv 18446744073709551615#128)).toNat), .int .u64 ((Wd.lo (Af.inv 18446744073709551615#128)).toNat)], .int .i64 0]) if_16 F H rfl rfl (aodd_ok 18446744073709551615#128 (by kernel_rfl) _)) (Sx.wanted_none rfl _) rfl (by decide) (fun A w F H => ?_)
  refine Sx.sv F (Sx.d_move F (Or.inl rfl) rfl) (Sx.wanted_none rfl _) rfl (by decide) (fun A F => ?_)
  refine Sx.sv F (Sx.d_extract (v := .agg #[.int .u64 ((Wd.hi (Af.inv 18446744073709551615#128)).toNat), .int .u64 ((Wd.lo (Af.inv 18446744073709551615#128)).toNat)]) F rfl rfl rfl) (Sx.wanted_none rfl _) rfl (by decide) (fun A F => ?_)
  refine Sx.sv F (Sx.d_extract (v := .int .i64 0) F rfl rfl rfl) (Sx.wanted_none rfl _) rfl (by decide) (fun A F => ?_)
  refine Sx.sb F (Sx.d_alloc H rfl [.int .u64 ((Wd.hi 0#128).toNat), .int .u64 ((Wd.lo 0#128).toNat)] zero_24) (Sx.wanted_none rfl _) rfl (by decide) (fun g4 A w F H => ?_)
  refine Sx.ss F (Sx.d_store (i := 0) (xs := [.int .u64 ((Wd.hi (Af.inv 18446744073709551615#128)).toNat), .int .u64 ((Wd.lo (Af.inv 18446744073709551615#128)).toNat)]) (us := [.int .u64 ((Wd.hi (Af.inv 18446744073709551615#128)).toNat), .int .u64 ((Wd.lo (Af.inv 18446744073709551615#128)).toNat)]) sz_24 F H rfl rfl rfl rfl rfl rfl rfl (Nat.le_of_ble_eq_true rfl) rfl) (Sx.wanted_none rfl _) rfl (fun A w F (H : Sx.Own w0 _ [(true, g4, [.int .u64 ((Wd.hi (Af.inv 18446744073709551615#128)).toNat), .int .u64 ((Wd.lo (Af.inv 18446744073709551615#128)).toNat)]), (true, g3, [.int .u64 ((Wd.hi 0#128).toNat), .int .u64 ((Wd.lo 0#128).toNat), .int .u64 ((Wd.hi 0#128).toNat), .int .u64 ((Wd.lo 0#128).toNat)]), (true, g2, [.int .u64 ((Wd.hi (Af.inv 3#128)).toNat), .int .u64 ((Wd.lo (Af.inv 3#128)).toNat), .int .u64 ((Wd.hi (Af.inv 3#128 * (0#128 - 1#128))).toNat), .int .u64 ((Wd.lo (Af.inv 3#128 * (0#128 - 1#128))).toNat)]), (true, g1, [.int .u64 ((Wd.hi 3#128).toNat), .int .u64 ((Wd.lo 3#128).toNat), .int .u64 ((Wd.hi 1#128).toNat), .int .u64 ((Wd.lo 1#128).toNat)])] []) => ?_)
  refine Sx.sv F (Sx.d_move F (Or.inr rfl) rfl) (Sx.wanted_none rfl _) rfl (by decide) (fun A F => ?_)
  refine Sx.nil ?_
  refine hK5 _ _ ?_
  refine Sx.seq (fun K6 hK6 => ?_)
  have F := Sx.Fr.to F (kv' := [(8, .agg #[.int .u64 ((Wd.hi 3#128).toNat), .int .u64 ((Wd.lo 3#128).toNat)]), (9, .agg #[.int .u64 ((Wd.hi 1#128).toNat), .int .u64 ((Wd.lo 1#128).toNat)]), (10, .agg #[.int .u64 ((Wd.hi 3#128).toNat), .int .u64 ((Wd.lo 3#128).toNat), .int .u64 ((Wd.hi 1#128).toNat), .int .u64 ((Wd.lo 1#128).toNat)]), (1, .pointer (some ⟨g1, 0, none⟩)), (12, .agg #[.int .u64 ((Wd.hi 3#128).toNat), .int .u64 ((Wd.lo 3#128).toNat), .int .u64 ((Wd.hi 1#128).toNat), .int .u64 ((Wd.lo 1#128).toNat)]), (13, .tuple #[.agg #[.int .u64 ((Wd.hi (Af.inv 3#128)).toNat), .int .u64 ((Wd.lo (Af.inv 3#128)).toNat), .int .u64 ((Wd.hi (Af.inv 3#128 * (0#128 - 1#128))).toNat), .int .u64 ((Wd.lo (Af.inv 3#128 * (0#128 - 1#128))).toNat)], .int .i64 0]), (11, .tuple #[.agg #[.int .u64 ((Wd.hi (Af.inv 3#128)).toNat), .int .u64 ((Wd.lo (Af.inv 3#128)).toNat), .int .u64 ((Wd.hi (Af.inv 3#128 * (0#128 - 1#128))).toNat), .int .u64 ((Wd.lo (Af.inv 3#128 * (0#128 - 1#128))).toNat)], .int .i64 0]), (14, .agg #[.int .u64 ((Wd.hi (Af.inv 3#128)).toNat), .int .u64 ((Wd.lo (Af.inv 3#128)).toNat), .int .u64 ((Wd.hi (Af.inv 3#128 * (0#128 - 1#128))).toNat), .int .u64 ((Wd.lo (Af.inv 3#128 * (0#128 - 1#128))).toNat)]), (15, .int .i64 0), (2, .pointer (some ⟨g2, 0, none⟩)), (3, .int .i64 0), (17, .agg #[.int .u64 ((Wd.hi 2#128).toNat), .int .u64 ((Wd.lo 2#128).toNat)]), (18, .agg #[.int .u64 ((Wd.hi 2#128).toNat), .int .u64 ((Wd.lo 2#128).toNat), .int .u64 ((Wd.hi 0#128).toNat), .int .u64 ((Wd.lo 0#128).toNat)]), (19, .tuple #[.agg #[.int .u64 ((Wd.hi 0#128).toNat), .int .u64 ((Wd.lo 0#128).toNat), .int .u64 ((Wd.hi 0#128).toNat), .int .u64 ((Wd.lo 0#128).toNat)], .int .i64 1]), (16, .tuple #[.agg #[.int .u64 ((Wd.hi 0#128).toNat), .int .u64 ((Wd.lo 0#128).toNat), .int .u64 ((Wd.hi 0#128).toNat), .int .u64 ((Wd.lo 0#128).toNat)], .int .i64 1]), (20, .agg #[.int .u64 ((Wd.hi 0#128).toNat), .int .u64 ((Wd.lo 0#128).toNat), .int .u64 ((Wd.hi 0#128).toNat), .int .u64 ((Wd.lo 0#128).toNat)]), (21, .int .i64 1), (4, .pointer (some ⟨g3, 0, none⟩)), (5, .int .i64 1), (23, .agg #[.int .u64 ((Wd.hi 18446744073709551615#128).toNat), .int .u64 ((Wd.lo 18446744073709551615#128).toNat)]), (24, .tuple #[.agg #[.int .u64 ((Wd.hi (Af.inv 18446744073709551615#128)).toNat), .int .u64 ((Wd.lo (Af.inv 18446744073709551615#128)).toNat)], .int .i64 0]), (22, .tuple #[.agg #[.int .u64 ((Wd.hi (Af.inv 18446744073709551615#128)).toNat), .int .u64 ((Wd.lo (Af.inv 18446744073709551615#128)).toNat)], .int .i64 0]), (25, .agg #[.int .u64 ((Wd.hi (Af.inv 18446744073709551615#128)).toNat), .int .u64 ((Wd.lo (Af.inv 18446744073709551615#128)).toNat)]), (26, .int .i64 0), (6, .pointer (some ⟨g4, 0, none⟩)), (7, .int .i64 0)]) ⟨rfl, rfl, rfl, rfl, rfl, rfl, rfl, rfl, rfl, rfl, rfl, rfl, rfl, rfl, rfl, rfl, rfl, rfl, rfl, rfl, rfl, rfl, rfl, rfl, rfl, rfl, trivial⟩
  refine Sx.drawn F (by kernel_rfl) (by kernel_rfl) (by kernel_rfl) [some (.agg #[.int .u64 ((Wd.hi 3#128).toNat), .int .u64 ((Wd.lo 3#128).toNat), .int .u64 ((Wd.hi 1#128).toNat), .int .u64 ((Wd.lo 1#128).toNat)]), some (.agg #[.int .u64 ((Wd.hi 2#128).toNat), .int .u64 ((Wd.lo 2#128).toNat)]), some (.agg #[.int .u64 ((Wd.hi (3#128 * 2#128 + 1#128)).toNat), .int .u64 ((Wd.lo (3#128 * 2#128 + 1#128)).toNat)]), some (.agg #[.int .u64 ((Wd.hi 7#128).toNat), .int .u64 ((Wd.lo 7#128).toNat)]), some (.bool true), some (.bool true), some (.agg #[.int .u64 ((Wd.hi 3#128).toNat), .int .u64 ((Wd.lo 3#128).toNat), .int .u64 ((Wd.hi 1#128).toNat), .int .u64 ((Wd.lo 1#128).toNat)]), some (.agg #[.int .u64 ((Wd.hi 2#128).toNat), .int .u64 ((Wd.lo 2#128).toNat)]), some (.agg #[.int .u64 ((Wd.hi ((Af.pow ⟨3#128, 1#128⟩ (2#128).toNat).a)).toNat), .int .u64 ((Wd.lo ((Af.pow ⟨3#128, 1#128⟩ (2#128).toNat).a)).toNat), .int .u64 ((Wd.hi ((Af.pow ⟨3#128, 1#128⟩ (2#128).toNat).c)).toNat), .int .u64 ((Wd.lo ((Af.pow ⟨3#128, 1#128⟩ (2#128).toNat).c)).toNat)]), some (.agg #[.int .u64 ((Wd.hi 9#128).toNat), .int .u64 ((Wd.lo 9#128).toNat)]), some (.agg #[.int .u64 ((Wd.hi 4#128).toNat), .int .u64 ((Wd.lo 4#128).toNat)]), some (.agg #[.int .u64 ((Wd.hi 9#128).toNat), .int .u64 ((Wd.lo 9#128).toNat), .int .u64 ((Wd.hi 4#128).toNat), .int .u64 ((Wd.lo 4#128).toNat)]), some (.bool true), some (.bool true), some (.bool true), some (.agg #[.int .u64 ((Wd.hi 3#128).toNat), .int .u64 ((Wd.lo 3#128).toNat), .int .u64 ((Wd.hi 1#128).toNat), .int .u64 ((Wd.lo 1#128).toNat)]), some (.agg #[.int .u64 ((Wd.hi 0#128).toNat), .int .u64 ((Wd.lo 0#128).toNat)]), some (.agg #[.int .u64 ((Wd.hi ((Af.pow ⟨3#128, 1#128⟩ (0#128).toNat).a)).toNat), .int .u64 ((Wd.lo ((Af.pow ⟨3#128, 1#128⟩ (0#128).toNat).a)).toNat), .int .u64 ((Wd.hi ((Af.pow ⟨3#128, 1#128⟩ (0#128).toNat).c)).toNat), .int .u64 ((Wd.lo ((Af.pow ⟨3#128, 1#128⟩ (0#128).toNat).c)).toNat)]), some (.agg #[.int .u64 ((Wd.hi 1#128).toNat), .int .u64 ((Wd.lo 1#128).toNat), .int .u64 ((Wd.hi 0#128).toNat), .int .u64 ((Wd.lo 0#128).toNat)]), some (.bool true), some (.bool true), some (.bool true), some (.agg #[.int .u64 ((Wd.hi 1#128).toNat), .int .u64 ((Wd.lo 1#128).toNat), .int .u64 ((Wd.hi 0#128).toNat), .int .u64 ((Wd.lo 0#128).toNat)]), some (.agg #[.int .u64 ((Wd.hi 1#128).toNat), .int .u64 ((Wd.lo 1#128).toNat)]), some (.agg #[.int .u64 ((Wd.hi 1#128).toNat), .int .u64 ((Wd.lo 1#128).toNat), .int .u64 ((Wd.hi 0#128).toNat), .int .u64 ((Wd.lo 0#128).toNat)]), some (.bool true), some (.bool true), some (.bool true), some (.agg #[.int .u64 ((Wd.hi 3#128).toNat), .int .u64 ((Wd.lo 3#128).toNat), .int .u64 ((Wd.hi 1#128).toNat), .int .u64 ((Wd.lo 1#128).toNat)]), some (.agg #[.int .u64 ((Wd.hi 2#128).toNat), .int .u64 ((Wd.lo 2#128).toNat)]), some (.agg #[.int .u64 ((Wd.hi 5#128).toNat), .int .u64 ((Wd.lo 5#128).toNat)]), some (.agg #[.int .u64 ((Wd.hi 2#128).toNat), .int .u64 ((Wd.lo 2#128).toNat), .int .u64 ((Wd.hi 5#128).toNat), .int .u64 ((Wd.lo 5#128).toNat)]), some (.agg #[.int .u64 ((Wd.hi (2#128 * 3#128)).toNat), .int .u64 ((Wd.lo (2#128 * 3#128)).toNat), .int .u64 ((Wd.hi (2#128 * 1#128 + 5#128)).toNat), .int .u64 ((Wd.lo (2#128 * 1#128 + 5#128)).toNat)]), some (.agg #[.int .u64 ((Wd.hi 6#128).toNat), .int .u64 ((Wd.lo 6#128).toNat)]), some (.agg #[.int .u64 ((Wd.hi 7#128).toNat), .int .u64 ((Wd.lo 7#128).toNat)]), some (.agg #[.int .u64 ((Wd.hi 6#128).toNat), .int .u64 ((Wd.lo 6#128).toNat), .int .u64 ((Wd.hi 7#128).toNat), .int .u64 ((Wd.lo 7#128).toNat)]), some (.bool true), some (.bool true), some (.bool true), some (.int .i64 0), some (.bool true), some (.bool true), some (.bool true), some (.agg #[.int .u64 ((Wd.hi (Af.inv 3#128)).toNat), .int .u64 ((Wd.lo (Af.inv 3#128)).toNat), .int .u64 ((Wd.hi (Af.inv 3#128 * (0#128 - 1#128))).toNat), .int .u64 ((Wd.lo (Af.inv 3#128 * (0#128 - 1#128))).toNat)]), some (.agg #[.int .u64 ((Wd.hi 7#128).toNat), .int .u64 ((Wd.lo 7#128).toNat)]), some (.agg #[.int .u64 ((Wd.hi ((Af.inv 3#128) * 7#128 + (Af.inv 3#128 * (0#128 - 1#128)))).toNat), .int .u64 ((Wd.lo ((Af.inv 3#128) * 7#128 + (Af.inv 3#128 * (0#128 - 1#128)))).toNat)]), some (.agg #[.int .u64 ((Wd.hi 2#128).toNat), .int .u64 ((Wd.lo 2#128).toNat)]), some (.bool true), some (.bool true), some (.bool true), some (.int .i64 1), some (.bool true), some (.bool true), some (.bool true), some (.agg #[.int .u64 ((Wd.hi (Af.inv 18446744073709551615#128)).toNat), .int .u64 ((Wd.lo (Af.inv 18446744073709551615#128)).toNat)]), some (.agg #[.int .u64 ((Wd.hi 18446744073709551615#128).toNat), .int .u64 ((Wd.lo 18446744073709551615#128).toNat)]), some (.agg #[.int .u64 ((Wd.hi ((Af.inv 18446744073709551615#128) * 18446744073709551615#128)).toNat), .int .u64 ((Wd.lo ((Af.inv 18446744073709551615#128) * 18446744073709551615#128)).toNat)]), some (.agg #[.int .u64 ((Wd.hi 1#128).toNat), .int .u64 ((Wd.lo 1#128).toNat)]), some (.bool true), some (.bool true), some (.bool true), some (.int .i64 0), some (.bool true), some (.bool true), some (.bool true)] (fun L A w => Sx.Own w0 w [(true, g4, [.int .u64 ((Wd.hi (Af.inv 18446744073709551615#128)).toNat), .int .u64 ((Wd.lo (Af.inv 18446744073709551615#128)).toNat)]), (true, g3, [.int .u64 ((Wd.hi 0#128).toNat), .int .u64 ((Wd.lo 0#128).toNat), .int .u64 ((Wd.hi 0#128).toNat), .int .u64 ((Wd.lo 0#128).toNat)]), (true, g2, [.int .u64 ((Wd.hi (Af.inv 3#128)).toNat), .int .u64 ((Wd.lo (Af.inv 3#128)).toNat), .int .u64 ((Wd.hi (Af.inv 3#128 * (0#128 - 1#128))).toNat), .int .u64 ((Wd.lo (Af.inv 3#128 * (0#128 - 1#128))).toNat)]), (true, g1, [.int .u64 ((Wd.hi 3#128).toNat), .int .u64 ((Wd.lo 3#128).toNat), .int .u64 ((Wd.hi 1#128).toNat), .int .u64 ((Wd.lo 1#128).toNat)])] []) H.drew ?_ ?_
  · refine ⟨?_, ?_, ?_, ?_, ?_, ?_, ?_, ?_, ?_, ?_, ?_, ?_, ?_, ?_, ?_, ?_, ?_, ?_, ?_, ?_, ?_, ?_, ?_, ?_, ?_, ?_, ?_, ?_, ?_, ?_, ?_, ?_, ?_, ?_, ?_, ?_, ?_, ?_, ?_, ?_, ?_, ?_, ?_, ?_, ?_, ?_, ?_, ?_, ?_, ?_, ?_, ?_, ?_, ?_, ?_, ?_, ?_, ?_, ?_, ?_, ?_, ?_, ?_, ?_, ?_, trivial⟩
    · show Sx.StepAt _ _ _ _ _ _ _ 0
      intro L A w up hun hd F H
      have F := Sx.Fr.to F (kv' := [(1, .pointer (some ⟨g1, 0, none⟩))]) ⟨rfl, trivial⟩
      refine Sx.step_on rfl (Sx.d_load (i := 3) (xs := [.int .u64 ((Wd.hi 3#128).toNat), .int .u64 ((Wd.lo 3#128).toNat), .int .u64 ((Wd.hi 1#128).toNat), .int .u64 ((Wd.lo 1#128).toNat)]) rw_26 F H rfl rfl rfl rfl rfl) ?_
      rintro xv w' ⟨hx, rfl⟩
      exact ⟨(fun cv hc => hx.trans (Option.some.inj (Option.some.inj hc))), H⟩
    · show Sx.StepAt _ _ _ _ _ _ _ 1
      intro L A w up hun hd F H
      have F := Sx.Fr.to F (kv' := []) trivial
      refine Sx.step_on rfl (Sx.d_call (vs := [.int .u64 2]) (v := .agg #[.int .u64 ((Wd.hi 2#128).toNat), .int .u64 ((Wd.lo 2#128).toNat)]) if_29 F H rfl rfl (Calls.val (wofV_c 2#64 _) (by kernel_rfl) (by kernel_rfl))) ?_
      rintro xv w' ⟨hx, H⟩
      exact ⟨(fun cv hc => hx.trans (Option.some.inj (Option.some.inj hc))), H⟩
    · show Sx.StepAt _ _ _ _ _ _ _ 2
      intro L A w up hun hd F H
      have F := Sx.Fr.to F (kv' := [(27, .agg #[.int .u64 ((Wd.hi 3#128).toNat), .int .u64 ((Wd.lo 3#128).toNat), .int .u64 ((Wd.hi 1#128).toNat), .int .u64 ((Wd.lo 1#128).toNat)]), (28, .agg #[.int .u64 ((Wd.hi 2#128).toNat), .int .u64 ((Wd.lo 2#128).toNat)])]) ⟨rfl, rfl, trivial⟩
      refine Sx.step_on rfl (Sx.d_call (vs := [.agg #[.int .u64 ((Wd.hi 3#128).toNat), .int .u64 ((Wd.lo 3#128).toNat), .int .u64 ((Wd.hi 1#128).toNat), .int .u64 ((Wd.lo 1#128).toNat)], .agg #[.int .u64 ((Wd.hi 2#128).toNat), .int .u64 ((Wd.lo 2#128).toNat)]]) (v := .agg #[.int .u64 ((Wd.hi (3#128 * 2#128 + 1#128)).toNat), .int .u64 ((Wd.lo (3#128 * 2#128 + 1#128)).toNat)]) if_21 F H rfl rfl (aat_c 3#128 1#128 2#128 _)) ?_
      rintro xv w' ⟨hx, H⟩
      exact ⟨(fun cv hc => hx.trans (Option.some.inj (Option.some.inj hc))), H⟩
    · show Sx.StepAt _ _ _ _ _ _ _ 3
      intro L A w up hun hd F H
      have F := Sx.Fr.to F (kv' := []) trivial
      refine Sx.step_on rfl (Sx.d_call (vs := [.int .u64 7]) (v := .agg #[.int .u64 ((Wd.hi 7#128).toNat), .int .u64 ((Wd.lo 7#128).toNat)]) if_29 F H rfl rfl (Calls.val (wofV_c 7#64 _) (by kernel_rfl) (by kernel_rfl))) ?_
      rintro xv w' ⟨hx, H⟩
      exact ⟨(fun cv hc => hx.trans (Option.some.inj (Option.some.inj hc))), H⟩
    · show Sx.StepAt _ _ _ _ _ _ _ 4
      intro L A w up hun hd F H
      have F := Sx.Fr.to F (kv' := [(29, .agg #[.int .u64 ((Wd.hi (3#128 * 2#128 + 1#128)).toNat), .int .u64 ((Wd.lo (3#128 * 2#128 + 1#128)).toNat)]), (30, .agg #[.int .u64 ((Wd.hi 7#128).toNat), .int .u64 ((Wd.lo 7#128).toNat)])]) ⟨rfl, rfl, trivial⟩
      refine Sx.step_on rfl (Sx.d_bin (v := .bool true) F rfl rfl rfl (Sx.i_eqV (by kernel_rfl))) ?_
      rintro xv w' ⟨hx, rfl⟩
      exact ⟨(fun cv hc => hx.trans (Option.some.inj (Option.some.inj hc))), H⟩
    · show Sx.StepAt _ _ _ _ _ _ _ 5
      intro L A w up hun hd F H
      have F := Sx.Fr.to F (kv' := [(31, .bool true)]) ⟨rfl, trivial⟩
      refine Sx.step_on rfl (Sx.d_move F (Or.inl rfl) rfl) ?_
      rintro xv w' ⟨hx, rfl⟩
      exact ⟨(fun cv hc => hx.trans (Option.some.inj (Option.some.inj hc))), H⟩
    · show Sx.StepAt _ _ _ _ _ _ _ 6
      intro L A w up hun hd F H
      have F := Sx.Fr.to F (kv' := [(1, .pointer (some ⟨g1, 0, none⟩)), (32, .bool true)]) ⟨rfl, rfl, trivial⟩
      refine Sx.step_ong rfl (Sx.guard_known (d := 32) (b := true) F rfl rfl) rfl (Sx.d_load (i := 3) (xs := [.int .u64 ((Wd.hi 3#128).toNat), .int .u64 ((Wd.lo 3#128).toNat), .int .u64 ((Wd.hi 1#128).toNat), .int .u64 ((Wd.lo 1#128).toNat)]) rw_26 F H rfl rfl rfl rfl rfl) ?_
      rintro xv w' ⟨hx, rfl⟩
      exact ⟨(fun cv hc => hx.trans (Option.some.inj (Option.some.inj hc))), H⟩
    · show Sx.StepAt _ _ _ _ _ _ _ 7
      intro L A w up hun hd F H
      have F := Sx.Fr.to F (kv' := [(32, .bool true)]) ⟨rfl, trivial⟩
      refine Sx.step_ong rfl (Sx.guard_known (d := 32) (b := true) F rfl rfl) rfl (Sx.d_call (vs := [.int .u64 2]) (v := .agg #[.int .u64 ((Wd.hi 2#128).toNat), .int .u64 ((Wd.lo 2#128).toNat)]) if_29 F H rfl rfl (Calls.val (wofV_c 2#64 _) (by kernel_rfl) (by kernel_rfl))) ?_
      rintro xv w' ⟨hx, H⟩
      exact ⟨(fun cv hc => hx.trans (Option.some.inj (Option.some.inj hc))), H⟩
    · show Sx.StepAt _ _ _ _ _ _ _ 8
      intro L A w up hun hd F H
      have F := Sx.Fr.to F (kv' := [(33, .agg #[.int .u64 ((Wd.hi 3#128).toNat), .int .u64 ((Wd.lo 3#128).toNat), .int .u64 ((Wd.hi 1#128).toNat), .int .u64 ((Wd.lo 1#128).toNat)]), (34, .agg #[.int .u64 ((Wd.hi 2#128).toNat), .int .u64 ((Wd.lo 2#128).toNat)]), (32, .bool true)]) ⟨rfl, rfl, rfl, trivial⟩
      refine Sx.step_ong rfl (Sx.guard_known (d := 32) (b := true) F rfl rfl) rfl (Sx.d_call (vs := [.agg #[.int .u64 ((Wd.hi 3#128).toNat), .int .u64 ((Wd.lo 3#128).toNat), .int .u64 ((Wd.hi 1#128).toNat), .int .u64 ((Wd.lo 1#128).toNat)], .agg #[.int .u64 ((Wd.hi 2#128).toNat), .int .u64 ((Wd.lo 2#128).toNat)]]) (v := .agg #[.int .u64 ((Wd.hi ((Af.pow ⟨3#128, 1#128⟩ (2#128).toNat).a)).toNat), .int .u64 ((Wd.lo ((Af.pow ⟨3#128, 1#128⟩ (2#128).toNat).a)).toNat), .int .u64 ((Wd.hi ((Af.pow ⟨3#128, 1#128⟩ (2#128).toNat).c)).toNat), .int .u64 ((Wd.lo ((Af.pow ⟨3#128, 1#128⟩ (2#128).toNat).c)).toNat)]) if_24 F H rfl rfl (apow_c 3#128 1#128 2#128 _)) ?_
      rintro xv w' ⟨hx, H⟩
      exact ⟨(fun cv hc => hx.trans (Option.some.inj (Option.some.inj hc))), H⟩
    · show Sx.StepAt _ _ _ _ _ _ _ 9
      intro L A w up hun hd F H
      have F := Sx.Fr.to F (kv' := [(32, .bool true)]) ⟨rfl, trivial⟩
      refine Sx.step_ong rfl (Sx.guard_known (d := 32) (b := true) F rfl rfl) rfl (Sx.d_call (vs := [.int .u64 9]) (v := .agg #[.int .u64 ((Wd.hi 9#128).toNat), .int .u64 ((Wd.lo 9#128).toNat)]) if_29 F H rfl rfl (Calls.val (wofV_c 9#64 _) (by kernel_rfl) (by kernel_rfl))) ?_
      rintro xv w' ⟨hx, H⟩
      exact ⟨(fun cv hc => hx.trans (Option.some.inj (Option.some.inj hc))), H⟩
    · show Sx.StepAt _ _ _ _ _ _ _ 10
      intro L A w up hun hd F H
      have F := Sx.Fr.to F (kv' := [(32, .bool true)]) ⟨rfl, trivial⟩
      refine Sx.step_ong rfl (Sx.guard_known (d := 32) (b := true) F rfl rfl) rfl (Sx.d_call (vs := [.int .u64 4]) (v := .agg #[.int .u64 ((Wd.hi 4#128).toNat), .int .u64 ((Wd.lo 4#128).toNat)]) if_29 F H rfl rfl (Calls.val (wofV_c 4#64 _) (by kernel_rfl) (by kernel_rfl))) ?_
      rintro xv w' ⟨hx, H⟩
      exact ⟨(fun cv hc => hx.trans (Option.some.inj (Option.some.inj hc))), H⟩
    · show Sx.StepAt _ _ _ _ _ _ _ 11
      intro L A w up hun hd F H
      have F := Sx.Fr.to F (kv' := [(36, .agg #[.int .u64 ((Wd.hi 9#128).toNat), .int .u64 ((Wd.lo 9#128).toNat)]), (37, .agg #[.int .u64 ((Wd.hi 4#128).toNat), .int .u64 ((Wd.lo 4#128).toNat)]), (32, .bool true)]) ⟨rfl, rfl, rfl, trivial⟩
      refine Sx.step_ong rfl (Sx.guard_known (d := 32) (b := true) F rfl rfl) rfl (Sx.d_build (qs := #[(0, .agg #[.int .u64 ((Wd.hi 9#128).toNat), .int .u64 ((Wd.lo 9#128).toNat)]), (1, .agg #[.int .u64 ((Wd.hi 4#128).toNat), .int .u64 ((Wd.lo 4#128).toNat)])]) (v := .agg #[.int .u64 ((Wd.hi 9#128).toNat), .int .u64 ((Wd.lo 9#128).toNat), .int .u64 ((Wd.hi 4#128).toNat), .int .u64 ((Wd.lo 4#128).toNat)]) F rfl rfl (by kernel_rfl)) ?_
      rintro xv w' ⟨hx, rfl⟩
      exact ⟨(fun cv hc => hx.trans (Option.some.inj (Option.some.inj hc))), H⟩
    · show Sx.StepAt _ _ _ _ _ _ _ 12
      intro L A w up hun hd F H
      have F := Sx.Fr.to F (kv' := [(35, .agg #[.int .u64 ((Wd.hi ((Af.pow ⟨3#128, 1#128⟩ (2#128).toNat).a)).toNat), .int .u64 ((Wd.lo ((Af.pow ⟨3#128, 1#128⟩ (2#128).toNat).a)).toNat), .int .u64 ((Wd.hi ((Af.pow ⟨3#128, 1#128⟩ (2#128).toNat).c)).toNat), .int .u64 ((Wd.lo ((Af.pow ⟨3#128, 1#128⟩ (2#128).toNat).c)).toNat)]), (38, .agg #[.int .u64 ((Wd.hi 9#128).toNat), .int .u64 ((Wd.lo 9#128).toNat), .int .u64 ((Wd.hi 4#128).toNat), .int .u64 ((Wd.lo 4#128).toNat)]), (32, .bool true)]) ⟨rfl, rfl, rfl, trivial⟩
      refine Sx.step_ong rfl (Sx.guard_known (d := 32) (b := true) F rfl rfl) rfl (Sx.d_bin (v := .bool true) F rfl rfl rfl (Sx.i_eqM (by kernel_rfl))) ?_
      rintro xv w' ⟨hx, rfl⟩
      exact ⟨(fun cv hc => hx.trans (Option.some.inj (Option.some.inj hc))), H⟩
    · show Sx.StepAt _ _ _ _ _ _ _ 13
      intro L A w up hun hd F H
      have F := Sx.Fr.to F (kv' := [(32, .bool true), (39, .bool true)]) ⟨rfl, rfl, trivial⟩
      refine Sx.step_on rfl (Sx.d_pickT (v := .bool true) F rfl rfl rfl) ?_
      rintro xv w' ⟨hx, rfl⟩
      exact ⟨(fun cv hc => hx.trans (Option.some.inj (Option.some.inj hc))), H⟩
    · show Sx.StepAt _ _ _ _ _ _ _ 14
      intro L A w up hun hd F H
      have F := Sx.Fr.to F (kv' := [(40, .bool true)]) ⟨rfl, trivial⟩
      refine Sx.step_on rfl (Sx.d_move F (Or.inl rfl) rfl) ?_
      rintro xv w' ⟨hx, rfl⟩
      exact ⟨(fun cv hc => hx.trans (Option.some.inj (Option.some.inj hc))), H⟩
    · show Sx.StepAt _ _ _ _ _ _ _ 15
      intro L A w up hun hd F H
      have F := Sx.Fr.to F (kv' := [(1, .pointer (some ⟨g1, 0, none⟩)), (41, .bool true)]) ⟨rfl, rfl, trivial⟩
      refine Sx.step_ong rfl (Sx.guard_known (d := 41) (b := true) F rfl rfl) rfl (Sx.d_load (i := 3) (xs := [.int .u64 ((Wd.hi 3#128).toNat), .int .u64 ((Wd.lo 3#128).toNat), .int .u64 ((Wd.hi 1#128).toNat), .int .u64 ((Wd.lo 1#128).toNat)]) rw_26 F H rfl rfl rfl rfl rfl) ?_
      rintro xv w' ⟨hx, rfl⟩
      exact ⟨(fun cv hc => hx.trans (Option.some.inj (Option.some.inj hc))), H⟩
    · show Sx.StepAt _ _ _ _ _ _ _ 16
      intro L A w up hun hd F H
      have F := Sx.Fr.to F (kv' := [(41, .bool true)]) ⟨rfl, trivial⟩
      refine Sx.step_ong rfl (Sx.guard_known (d := 41) (b := true) F rfl rfl) rfl (Sx.d_build (qs := #[]) (v := .agg #[.int .u64 ((Wd.hi 0#128).toNat), .int .u64 ((Wd.lo 0#128).toNat)]) F rfl rfl (by kernel_rfl)) ?_
      rintro xv w' ⟨hx, rfl⟩
      exact ⟨(fun cv hc => hx.trans (Option.some.inj (Option.some.inj hc))), H⟩
    · show Sx.StepAt _ _ _ _ _ _ _ 17
      intro L A w up hun hd F H
      have F := Sx.Fr.to F (kv' := [(42, .agg #[.int .u64 ((Wd.hi 3#128).toNat), .int .u64 ((Wd.lo 3#128).toNat), .int .u64 ((Wd.hi 1#128).toNat), .int .u64 ((Wd.lo 1#128).toNat)]), (43, .agg #[.int .u64 ((Wd.hi 0#128).toNat), .int .u64 ((Wd.lo 0#128).toNat)]), (41, .bool true)]) ⟨rfl, rfl, rfl, trivial⟩
      refine Sx.step_ong rfl (Sx.guard_known (d := 41) (b := true) F rfl rfl) rfl (Sx.d_call (vs := [.agg #[.int .u64 ((Wd.hi 3#128).toNat), .int .u64 ((Wd.lo 3#128).toNat), .int .u64 ((Wd.hi 1#128).toNat), .int .u64 ((Wd.lo 1#128).toNat)], .agg #[.int .u64 ((Wd.hi 0#128).toNat), .int .u64 ((Wd.lo 0#128).toNat)]]) (v := .agg #[.int .u64 ((Wd.hi ((Af.pow ⟨3#128, 1#128⟩ (0#128).toNat).a)).toNat), .int .u64 ((Wd.lo ((Af.pow ⟨3#128, 1#128⟩ (0#128).toNat).a)).toNat), .int .u64 ((Wd.hi ((Af.pow ⟨3#128, 1#128⟩ (0#128).toNat).c)).toNat), .int .u64 ((Wd.lo ((Af.pow ⟨3#128, 1#128⟩ (0#128).toNat).c)).toNat)]) if_24 F H rfl rfl (apow_c 3#128 1#128 0#128 _)) ?_
      rintro xv w' ⟨hx, H⟩
      exact ⟨(fun cv hc => hx.trans (Option.some.inj (Option.some.inj hc))), H⟩
    · show Sx.StepAt _ _ _ _ _ _ _ 18
      intro L A w up hun hd F H
      have F := Sx.Fr.to F (kv' := [(41, .bool true)]) ⟨rfl, trivial⟩
      refine Sx.step_ong rfl (Sx.guard_known (d := 41) (b := true) F rfl rfl) rfl (Sx.d_call (vs := []) (v := .agg #[.int .u64 ((Wd.hi 1#128).toNat), .int .u64 ((Wd.lo 1#128).toNat), .int .u64 ((Wd.hi 0#128).toNat), .int .u64 ((Wd.lo 0#128).toNat)]) if_26 F H rfl rfl (aone_c _)) ?_
      rintro xv w' ⟨hx, H⟩
      exact ⟨(fun cv hc => hx.trans (Option.some.inj (Option.some.inj hc))), H⟩
    · show Sx.StepAt _ _ _ _ _ _ _ 19
      intro L A w up hun hd F H
      have F := Sx.Fr.to F (kv' := [(44, .agg #[.int .u64 ((Wd.hi ((Af.pow ⟨3#128, 1#128⟩ (0#128).toNat).a)).toNat), .int .u64 ((Wd.lo ((Af.pow ⟨3#128, 1#128⟩ (0#128).toNat).a)).toNat), .int .u64 ((Wd.hi ((Af.pow ⟨3#128, 1#128⟩ (0#128).toNat).c)).toNat), .int .u64 ((Wd.lo ((Af.pow ⟨3#128, 1#128⟩ (0#128).toNat).c)).toNat)]), (45, .agg #[.int .u64 ((Wd.hi 1#128).toNat), .int .u64 ((Wd.lo 1#128).toNat), .int .u64 ((Wd.hi 0#128).toNat), .int .u64 ((Wd.lo 0#128).toNat)]), (41, .bool true)]) ⟨rfl, rfl, rfl, trivial⟩
      refine Sx.step_ong rfl (Sx.guard_known (d := 41) (b := true) F rfl rfl) rfl (Sx.d_bin (v := .bool true) F rfl rfl rfl (Sx.i_eqM (by kernel_rfl))) ?_
      rintro xv w' ⟨hx, rfl⟩
      exact ⟨(fun cv hc => hx.trans (Option.some.inj (Option.some.inj hc))), H⟩
    · show Sx.StepAt _ _ _ _ _ _ _ 20
      intro L A w up hun hd F H
      have F := Sx.Fr.to F (kv' := [(41, .bool true), (46, .bool true)]) ⟨rfl, rfl, trivial⟩
      refine Sx.step_on rfl (Sx.d_pickT (v := .bool true) F rfl rfl rfl) ?_
      rintro xv w' ⟨hx, rfl⟩
      exact ⟨(fun cv hc => hx.trans (Option.some.inj (Option.some.inj hc))), H⟩
    · show Sx.StepAt _ _ _ _ _ _ _ 21
      intro L A w up hun hd F H
      have F := Sx.Fr.to F (kv' := [(47, .bool true)]) ⟨rfl, trivial⟩
      refine Sx.step_on rfl (Sx.d_move F (Or.inl rfl) rfl) ?_
      rintro xv w' ⟨hx, rfl⟩
      exact ⟨(fun cv hc => hx.trans (Option.some.inj (Option.some.inj hc))), H⟩
    · show Sx.StepAt _ _ _ _ _ _ _ 22
      intro L A w up hun hd F H
      have F := Sx.Fr.to F (kv' := [(48, .bool true)]) ⟨rfl, trivial⟩
      refine Sx.step_ong rfl (Sx.guard_known (d := 48) (b := true) F rfl rfl) rfl (Sx.d_call (vs := []) (v := .agg #[.int .u64 ((Wd.hi 1#128).toNat), .int .u64 ((Wd.lo 1#128).toNat), .int .u64 ((Wd.hi 0#128).toNat), .int .u64 ((Wd.lo 0#128).toNat)]) if_26 F H rfl rfl (aone_c _)) ?_
      rintro xv w' ⟨hx, H⟩
      exact ⟨(fun cv hc => hx.trans (Option.some.inj (Option.some.inj hc))), H⟩
    · show Sx.StepAt _ _ _ _ _ _ _ 23
      intro L A w up hun hd F H
      have F := Sx.Fr.to F (kv' := [(48, .bool true)]) ⟨rfl, trivial⟩
      refine Sx.step_ong rfl (Sx.guard_known (d := 48) (b := true) F rfl rfl) rfl (Sx.d_call (vs := [.int .u64 1]) (v := .agg #[.int .u64 ((Wd.hi 1#128).toNat), .int .u64 ((Wd.lo 1#128).toNat)]) if_29 F H rfl rfl (Calls.val (wofV_c 1#64 _) (by kernel_rfl) (by kernel_rfl))) ?_
      rintro xv w' ⟨hx, H⟩
      exact ⟨(fun cv hc => hx.trans (Option.some.inj (Option.some.inj hc))), H⟩
    · show Sx.StepAt _ _ _ _ _ _ _ 24
      intro L A w up hun hd F H
      have F := Sx.Fr.to F (kv' := [(50, .agg #[.int .u64 ((Wd.hi 1#128).toNat), .int .u64 ((Wd.lo 1#128).toNat)]), (48, .bool true)]) ⟨rfl, rfl, trivial⟩
      refine Sx.step_ong rfl (Sx.guard_known (d := 48) (b := true) F rfl rfl) rfl (Sx.d_build (qs := #[(0, .agg #[.int .u64 ((Wd.hi 1#128).toNat), .int .u64 ((Wd.lo 1#128).toNat)])]) (v := .agg #[.int .u64 ((Wd.hi 1#128).toNat), .int .u64 ((Wd.lo 1#128).toNat), .int .u64 ((Wd.hi 0#128).toNat), .int .u64 ((Wd.lo 0#128).toNat)]) F rfl rfl (by kernel_rfl)) ?_
      rintro xv w' ⟨hx, rfl⟩
      exact ⟨(fun cv hc => hx.trans (Option.some.inj (Option.some.inj hc))), H⟩
    · show Sx.StepAt _ _ _ _ _ _ _ 25
      intro L A w up hun hd F H
      have F := Sx.Fr.to F (kv' := [(49, .agg #[.int .u64 ((Wd.hi 1#128).toNat), .int .u64 ((Wd.lo 1#128).toNat), .int .u64 ((Wd.hi 0#128).toNat), .int .u64 ((Wd.lo 0#128).toNat)]), (51, .agg #[.int .u64 ((Wd.hi 1#128).toNat), .int .u64 ((Wd.lo 1#128).toNat), .int .u64 ((Wd.hi 0#128).toNat), .int .u64 ((Wd.lo 0#128).toNat)]), (48, .bool true)]) ⟨rfl, rfl, rfl, trivial⟩
      refine Sx.step_ong rfl (Sx.guard_known (d := 48) (b := true) F rfl rfl) rfl (Sx.d_bin (v := .bool true) F rfl rfl rfl (Sx.i_eqM (Sx.eqbM_true rfl rfl))) ?_
      rintro xv w' ⟨hx, rfl⟩
      exact ⟨(fun cv hc => hx.trans (Option.some.inj (Option.some.inj hc))), H⟩
    · show Sx.StepAt _ _ _ _ _ _ _ 26
      intro L A w up hun hd F H
      have F := Sx.Fr.to F (kv' := [(48, .bool true), (52, .bool true)]) ⟨rfl, rfl, trivial⟩
      refine Sx.step_on rfl (Sx.d_pickT (v := .bool true) F rfl rfl rfl) ?_
      rintro xv w' ⟨hx, rfl⟩
      exact ⟨(fun cv hc => hx.trans (Option.some.inj (Option.some.inj hc))), H⟩
    · show Sx.StepAt _ _ _ _ _ _ _ 27
      intro L A w up hun hd F H
      have F := Sx.Fr.to F (kv' := [(53, .bool true)]) ⟨rfl, trivial⟩
      refine Sx.step_on rfl (Sx.d_move F (Or.inl rfl) rfl) ?_
      rintro xv w' ⟨hx, rfl⟩
      exact ⟨(fun cv hc => hx.trans (Option.some.inj (Option.some.inj hc))), H⟩
    · show Sx.StepAt _ _ _ _ _ _ _ 28
      intro L A w up hun hd F H
      have F := Sx.Fr.to F (kv' := [(1, .pointer (some ⟨g1, 0, none⟩)), (54, .bool true)]) ⟨rfl, rfl, trivial⟩
      refine Sx.step_ong rfl (Sx.guard_known (d := 54) (b := true) F rfl rfl) rfl (Sx.d_load (i := 3) (xs := [.int .u64 ((Wd.hi 3#128).toNat), .int .u64 ((Wd.lo 3#128).toNat), .int .u64 ((Wd.hi 1#128).toNat), .int .u64 ((Wd.lo 1#128).toNat)]) rw_26 F H rfl rfl rfl rfl rfl) ?_
      rintro xv w' ⟨hx, rfl⟩
      exact ⟨(fun cv hc => hx.trans (Option.some.inj (Option.some.inj hc))), H⟩
    · show Sx.StepAt _ _ _ _ _ _ _ 29
      intro L A w up hun hd F H
      have F := Sx.Fr.to F (kv' := [(54, .bool true)]) ⟨rfl, trivial⟩
      refine Sx.step_ong rfl (Sx.guard_known (d := 54) (b := true) F rfl rfl) rfl (Sx.d_call (vs := [.int .u64 2]) (v := .agg #[.int .u64 ((Wd.hi 2#128).toNat), .int .u64 ((Wd.lo 2#128).toNat)]) if_29 F H rfl rfl (Calls.val (wofV_c 2#64 _) (by kernel_rfl) (by kernel_rfl))) ?_
      rintro xv w' ⟨hx, H⟩
      exact ⟨(fun cv hc => hx.trans (Option.some.inj (Option.some.inj hc))), H⟩
    · show Sx.StepAt _ _ _ _ _ _ _ 30
      intro L A w up hun hd F H
      have F := Sx.Fr.to F (kv' := [(54, .bool true)]) ⟨rfl, trivial⟩
      refine Sx.step_ong rfl (Sx.guard_known (d := 54) (b := true) F rfl rfl) rfl (Sx.d_call (vs := [.int .u64 5]) (v := .agg #[.int .u64 ((Wd.hi 5#128).toNat), .int .u64 ((Wd.lo 5#128).toNat)]) if_29 F H rfl rfl (Calls.val (wofV_c 5#64 _) (by kernel_rfl) (by kernel_rfl))) ?_
      rintro xv w' ⟨hx, H⟩
      exact ⟨(fun cv hc => hx.trans (Option.some.inj (Option.some.inj hc))), H⟩
    · show Sx.StepAt _ _ _ _ _ _ _ 31
      intro L A w up hun hd F H
      have F := Sx.Fr.to F (kv' := [(56, .agg #[.int .u64 ((Wd.hi 2#128).toNat), .int .u64 ((Wd.lo 2#128).toNat)]), (57, .agg #[.int .u64 ((Wd.hi 5#128).toNat), .int .u64 ((Wd.lo 5#128).toNat)]), (54, .bool true)]) ⟨rfl, rfl, rfl, trivial⟩
      refine Sx.step_ong rfl (Sx.guard_known (d := 54) (b := true) F rfl rfl) rfl (Sx.d_build (qs := #[(0, .agg #[.int .u64 ((Wd.hi 2#128).toNat), .int .u64 ((Wd.lo 2#128).toNat)]), (1, .agg #[.int .u64 ((Wd.hi 5#128).toNat), .int .u64 ((Wd.lo 5#128).toNat)])]) (v := .agg #[.int .u64 ((Wd.hi 2#128).toNat), .int .u64 ((Wd.lo 2#128).toNat), .int .u64 ((Wd.hi 5#128).toNat), .int .u64 ((Wd.lo 5#128).toNat)]) F rfl rfl (by kernel_rfl)) ?_
      rintro xv w' ⟨hx, rfl⟩
      exact ⟨(fun cv hc => hx.trans (Option.some.inj (Option.some.inj hc))), H⟩
    · show Sx.StepAt _ _ _ _ _ _ _ 32
      intro L A w up hun hd F H
      have F := Sx.Fr.to F (kv' := [(55, .agg #[.int .u64 ((Wd.hi 3#128).toNat), .int .u64 ((Wd.lo 3#128).toNat), .int .u64 ((Wd.hi 1#128).toNat), .int .u64 ((Wd.lo 1#128).toNat)]), (58, .agg #[.int .u64 ((Wd.hi 2#128).toNat), .int .u64 ((Wd.lo 2#128).toNat), .int .u64 ((Wd.hi 5#128).toNat), .int .u64 ((Wd.lo 5#128).toNat)]), (54, .bool true)]) ⟨rfl, rfl, rfl, trivial⟩
      refine Sx.step_ong rfl (Sx.guard_known (d := 54) (b := true) F rfl rfl) rfl (Sx.d_call (vs := [.agg #[.int .u64 ((Wd.hi 3#128).toNat), .int .u64 ((Wd.lo 3#128).toNat), .int .u64 ((Wd.hi 1#128).toNat), .int .u64 ((Wd.lo 1#128).toNat)], .agg #[.int .u64 ((Wd.hi 2#128).toNat), .int .u64 ((Wd.lo 2#128).toNat), .int .u64 ((Wd.hi 5#128).toNat), .int .u64 ((Wd.lo 5#128).toNat)]]) (v := .agg #[.int .u64 ((Wd.hi (2#128 * 3#128)).toNat), .int .u64 ((Wd.lo (2#128 * 3#128)).toNat), .int .u64 ((Wd.hi (2#128 * 1#128 + 5#128)).toNat), .int .u64 ((Wd.lo (2#128 * 1#128 + 5#128)).toNat)]) if_23 F H rfl rfl (athen_c 3#128 1#128 2#128 5#128 _)) ?_
      rintro xv w' ⟨hx, H⟩
      exact ⟨(fun cv hc => hx.trans (Option.some.inj (Option.some.inj hc))), H⟩
    · show Sx.StepAt _ _ _ _ _ _ _ 33
      intro L A w up hun hd F H
      have F := Sx.Fr.to F (kv' := [(54, .bool true)]) ⟨rfl, trivial⟩
      refine Sx.step_ong rfl (Sx.guard_known (d := 54) (b := true) F rfl rfl) rfl (Sx.d_call (vs := [.int .u64 6]) (v := .agg #[.int .u64 ((Wd.hi 6#128).toNat), .int .u64 ((Wd.lo 6#128).toNat)]) if_29 F H rfl rfl (Calls.val (wofV_c 6#64 _) (by kernel_rfl) (by kernel_rfl))) ?_
      rintro xv w' ⟨hx, H⟩
      exact ⟨(fun cv hc => hx.trans (Option.some.inj (Option.some.inj hc))), H⟩
    · show Sx.StepAt _ _ _ _ _ _ _ 34
      intro L A w up hun hd F H
      have F := Sx.Fr.to F (kv' := [(54, .bool true)]) ⟨rfl, trivial⟩
      refine Sx.step_ong rfl (Sx.guard_known (d := 54) (b := true) F rfl rfl) rfl (Sx.d_call (vs := [.int .u64 7]) (v := .agg #[.int .u64 ((Wd.hi 7#128).toNat), .int .u64 ((Wd.lo 7#128).toNat)]) if_29 F H rfl rfl (Calls.val (wofV_c 7#64 _) (by kernel_rfl) (by kernel_rfl))) ?_
      rintro xv w' ⟨hx, H⟩
      exact ⟨(fun cv hc => hx.trans (Option.some.inj (Option.some.inj hc))), H⟩
    · show Sx.StepAt _ _ _ _ _ _ _ 35
      intro L A w up hun hd F H
      have F := Sx.Fr.to F (kv' := [(60, .agg #[.int .u64 ((Wd.hi 6#128).toNat), .int .u64 ((Wd.lo 6#128).toNat)]), (61, .agg #[.int .u64 ((Wd.hi 7#128).toNat), .int .u64 ((Wd.lo 7#128).toNat)]), (54, .bool true)]) ⟨rfl, rfl, rfl, trivial⟩
      refine Sx.step_ong rfl (Sx.guard_known (d := 54) (b := true) F rfl rfl) rfl (Sx.d_build (qs := #[(0, .agg #[.int .u64 ((Wd.hi 6#128).toNat), .int .u64 ((Wd.lo 6#128).toNat)]), (1, .agg #[.int .u64 ((Wd.hi 7#128).toNat), .int .u64 ((Wd.lo 7#128).toNat)])]) (v := .agg #[.int .u64 ((Wd.hi 6#128).toNat), .int .u64 ((Wd.lo 6#128).toNat), .int .u64 ((Wd.hi 7#128).toNat), .int .u64 ((Wd.lo 7#128).toNat)]) F rfl rfl (by kernel_rfl)) ?_
      rintro xv w' ⟨hx, rfl⟩
      exact ⟨(fun cv hc => hx.trans (Option.some.inj (Option.some.inj hc))), H⟩
    · show Sx.StepAt _ _ _ _ _ _ _ 36
      intro L A w up hun hd F H
      have F := Sx.Fr.to F (kv' := [(59, .agg #[.int .u64 ((Wd.hi (2#128 * 3#128)).toNat), .int .u64 ((Wd.lo (2#128 * 3#128)).toNat), .int .u64 ((Wd.hi (2#128 * 1#128 + 5#128)).toNat), .int .u64 ((Wd.lo (2#128 * 1#128 + 5#128)).toNat)]), (62, .agg #[.int .u64 ((Wd.hi 6#128).toNat), .int .u64 ((Wd.lo 6#128).toNat), .int .u64 ((Wd.hi 7#128).toNat), .int .u64 ((Wd.lo 7#128).toNat)]), (54, .bool true)]) ⟨rfl, rfl, rfl, trivial⟩
      refine Sx.step_ong rfl (Sx.guard_known (d := 54) (b := true) F rfl rfl) rfl (Sx.d_bin (v := .bool true) F rfl rfl rfl (Sx.i_eqM (by kernel_rfl))) ?_
      rintro xv w' ⟨hx, rfl⟩
      exact ⟨(fun cv hc => hx.trans (Option.some.inj (Option.some.inj hc))), H⟩
    · show Sx.StepAt _ _ _ _ _ _ _ 37
      intro L A w up hun hd F H
      have F := Sx.Fr.to F (kv' := [(54, .bool true), (63, .bool true)]) ⟨rfl, rfl, trivial⟩
      refine Sx.step_on rfl (Sx.d_pickT (v := .bool true) F rfl rfl rfl) ?_
      rintro xv w' ⟨hx, rfl⟩
      exact ⟨(fun cv hc => hx.trans (Option.some.inj (Option.some.inj hc))), H⟩
    · show Sx.StepAt _ _ _ _ _ _ _ 38
      intro L A w up hun hd F H
      have F := Sx.Fr.to F (kv' := [(64, .bool true)]) ⟨rfl, trivial⟩
      refine Sx.step_on rfl (Sx.d_move F (Or.inl rfl) rfl) ?_
      rintro xv w' ⟨hx, rfl⟩
      exact ⟨(fun cv hc => hx.trans (Option.some.inj (Option.some.inj hc))), H⟩
    · show Sx.StepAt _ _ _ _ _ _ _ 39
      intro L A w up hun hd F H
      have F := Sx.Fr.to F (kv' := [(3, .int .i64 0), (65, .bool true)]) ⟨rfl, rfl, trivial⟩
      refine Sx.step_ong rfl (Sx.guard_known (d := 65) (b := true) F rfl rfl) rfl (Sx.d_move F (Or.inl rfl) rfl) ?_
      rintro xv w' ⟨hx, rfl⟩
      exact ⟨(fun cv hc => hx.trans (Option.some.inj (Option.some.inj hc))), H⟩
    · show Sx.StepAt _ _ _ _ _ _ _ 40
      intro L A w up hun hd F H
      have F := Sx.Fr.to F (kv' := [(66, .int .i64 0), (65, .bool true)]) ⟨rfl, rfl, trivial⟩
      refine Sx.step_ong rfl (Sx.guard_known (d := 65) (b := true) F rfl rfl) rfl (Sx.d_bin (v := .bool true) F rfl rfl rfl (Sx.i_eq (by decide))) ?_
      rintro xv w' ⟨hx, rfl⟩
      exact ⟨(fun cv hc => hx.trans (Option.some.inj (Option.some.inj hc))), H⟩
    · show Sx.StepAt _ _ _ _ _ _ _ 41
      intro L A w up hun hd F H
      have F := Sx.Fr.to F (kv' := [(65, .bool true), (67, .bool true)]) ⟨rfl, rfl, trivial⟩
      refine Sx.step_on rfl (Sx.d_pickT (v := .bool true) F rfl rfl rfl) ?_
      rintro xv w' ⟨hx, rfl⟩
      exact ⟨(fun cv hc => hx.trans (Option.some.inj (Option.some.inj hc))), H⟩
    · show Sx.StepAt _ _ _ _ _ _ _ 42
      intro L A w up hun hd F H
      have F := Sx.Fr.to F (kv' := [(68, .bool true)]) ⟨rfl, trivial⟩
      refine Sx.step_on rfl (Sx.d_move F (Or.inl rfl) rfl) ?_
      rintro xv w' ⟨hx, rfl⟩
      exact ⟨(fun cv hc => hx.trans (Option.some.inj (Option.some.inj hc))), H⟩
    · show Sx.StepAt _ _ _ _ _ _ _ 43
      intro L A w up hun hd F H
      have F := Sx.Fr.to F (kv' := [(2, .pointer (some ⟨g2, 0, none⟩)), (69, .bool true)]) ⟨rfl, rfl, trivial⟩
      refine Sx.step_ong rfl (Sx.guard_known (d := 69) (b := true) F rfl rfl) rfl (Sx.d_load (i := 2) (xs := [.int .u64 ((Wd.hi (Af.inv 3#128)).toNat), .int .u64 ((Wd.lo (Af.inv 3#128)).toNat), .int .u64 ((Wd.hi (Af.inv 3#128 * (0#128 - 1#128))).toNat), .int .u64 ((Wd.lo (Af.inv 3#128 * (0#128 - 1#128))).toNat)]) rw_26 F H rfl rfl rfl rfl rfl) ?_
      rintro xv w' ⟨hx, rfl⟩
      exact ⟨(fun cv hc => hx.trans (Option.some.inj (Option.some.inj hc))), H⟩
    · show Sx.StepAt _ _ _ _ _ _ _ 44
      intro L A w up hun hd F H
      have F := Sx.Fr.to F (kv' := [(69, .bool true)]) ⟨rfl, trivial⟩
      refine Sx.step_ong rfl (Sx.guard_known (d := 69) (b := true) F rfl rfl) rfl (Sx.d_call (vs := [.int .u64 7]) (v := .agg #[.int .u64 ((Wd.hi 7#128).toNat), .int .u64 ((Wd.lo 7#128).toNat)]) if_29 F H rfl rfl (Calls.val (wofV_c 7#64 _) (by kernel_rfl) (by kernel_rfl))) ?_
      rintro xv w' ⟨hx, H⟩
      exact ⟨(fun cv hc => hx.trans (Option.some.inj (Option.some.inj hc))), H⟩
    · show Sx.StepAt _ _ _ _ _ _ _ 45
      intro L A w up hun hd F H
      have F := Sx.Fr.to F (kv' := [(70, .agg #[.int .u64 ((Wd.hi (Af.inv 3#128)).toNat), .int .u64 ((Wd.lo (Af.inv 3#128)).toNat), .int .u64 ((Wd.hi (Af.inv 3#128 * (0#128 - 1#128))).toNat), .int .u64 ((Wd.lo (Af.inv 3#128 * (0#128 - 1#128))).toNat)]), (71, .agg #[.int .u64 ((Wd.hi 7#128).toNat), .int .u64 ((Wd.lo 7#128).toNat)]), (69, .bool true)]) ⟨rfl, rfl, rfl, trivial⟩
      refine Sx.step_ong rfl (Sx.guard_known (d := 69) (b := true) F rfl rfl) rfl (Sx.d_call (vs := [.agg #[.int .u64 ((Wd.hi (Af.inv 3#128)).toNat), .int .u64 ((Wd.lo (Af.inv 3#128)).toNat), .int .u64 ((Wd.hi (Af.inv 3#128 * (0#128 - 1#128))).toNat), .int .u64 ((Wd.lo (Af.inv 3#128 * (0#128 - 1#128))).toNat)], .agg #[.int .u64 ((Wd.hi 7#128).toNat), .int .u64 ((Wd.lo 7#128).toNat)]]) (v := .agg #[.int .u64 ((Wd.hi ((Af.inv 3#128) * 7#128 + (Af.inv 3#128 * (0#128 - 1#128)))).toNat), .int .u64 ((Wd.lo ((Af.inv 3#128) * 7#128 + (Af.inv 3#128 * (0#128 - 1#128)))).toNat)]) if_21 F H rfl rfl (aat_c (Af.inv 3#128) (Af.inv 3#128 * (0#128 - 1#128)) 7#128 _)) ?_
      rintro xv w' ⟨hx, H⟩
      exact ⟨(fun cv hc => hx.trans (Option.some.inj (Option.some.inj hc))), H⟩
    · show Sx.StepAt _ _ _ _ _ _ _ 46
      intro L A w up hun hd F H
      have F := Sx.Fr.to F (kv' := [(69, .bool true)]) ⟨rfl, trivial⟩
      refine Sx.step_ong rfl (Sx.guard_known (d := 69) (b := true) F rfl rfl) rfl (Sx.d_call (vs := [.int .u64 2]) (v := .agg #[.int .u64 ((Wd.hi 2#128).toNat), .int .u64 ((Wd.lo 2#128).toNat)]) if_29 F H rfl rfl (Calls.val (wofV_c 2#64 _) (by kernel_rfl) (by kernel_rfl))) ?_
      rintro xv w' ⟨hx, H⟩
      exact ⟨(fun cv hc => hx.trans (Option.some.inj (Option.some.inj hc))), H⟩
    · show Sx.StepAt _ _ _ _ _ _ _ 47
      intro L A w up hun hd F H
      have F := Sx.Fr.to F (kv' := [(72, .agg #[.int .u64 ((Wd.hi ((Af.inv 3#128) * 7#128 + (Af.inv 3#128 * (0#128 - 1#128)))).toNat), .int .u64 ((Wd.lo ((Af.inv 3#128) * 7#128 + (Af.inv 3#128 * (0#128 - 1#128)))).toNat)]), (73, .agg #[.int .u64 ((Wd.hi 2#128).toNat), .int .u64 ((Wd.lo 2#128).toNat)]), (69, .bool true)]) ⟨rfl, rfl, rfl, trivial⟩
      refine Sx.step_ong rfl (Sx.guard_known (d := 69) (b := true) F rfl rfl) rfl (Sx.d_bin (v := .bool true) F rfl rfl rfl (Sx.i_eqV (by kernel_rfl))) ?_
      rintro xv w' ⟨hx, rfl⟩
      exact ⟨(fun cv hc => hx.trans (Option.some.inj (Option.some.inj hc))), H⟩
    · show Sx.StepAt _ _ _ _ _ _ _ 48
      intro L A w up hun hd F H
      have F := Sx.Fr.to F (kv' := [(69, .bool true), (74, .bool true)]) ⟨rfl, rfl, trivial⟩
      refine Sx.step_on rfl (Sx.d_pickT (v := .bool true) F rfl rfl rfl) ?_
      rintro xv w' ⟨hx, rfl⟩
      exact ⟨(fun cv hc => hx.trans (Option.some.inj (Option.some.inj hc))), H⟩
    · show Sx.StepAt _ _ _ _ _ _ _ 49
      intro L A w up hun hd F H
      have F := Sx.Fr.to F (kv' := [(75, .bool true)]) ⟨rfl, trivial⟩
      refine Sx.step_on rfl (Sx.d_move F (Or.inl rfl) rfl) ?_
      rintro xv w' ⟨hx, rfl⟩
      exact ⟨(fun cv hc => hx.trans (Option.some.inj (Option.some.inj hc))), H⟩
    · show Sx.StepAt _ _ _ _ _ _ _ 50
      intro L A w up hun hd F H
      have F := Sx.Fr.to F (kv' := [(5, .int .i64 1), (76, .bool true)]) ⟨rfl, rfl, trivial⟩
      refine Sx.step_ong rfl (Sx.guard_known (d := 76) (b := true) F rfl rfl) rfl (Sx.d_move F (Or.inl rfl) rfl) ?_
      rintro xv w' ⟨hx, rfl⟩
      exact ⟨(fun cv hc => hx.trans (Option.some.inj (Option.some.inj hc))), H⟩
    · show Sx.StepAt _ _ _ _ _ _ _ 51
      intro L A w up hun hd F H
      have F := Sx.Fr.to F (kv' := [(77, .int .i64 1), (76, .bool true)]) ⟨rfl, rfl, trivial⟩
      refine Sx.step_ong rfl (Sx.guard_known (d := 76) (b := true) F rfl rfl) rfl (Sx.d_bin (v := .bool true) F rfl rfl rfl (Sx.i_eq (by decide))) ?_
      rintro xv w' ⟨hx, rfl⟩
      exact ⟨(fun cv hc => hx.trans (Option.some.inj (Option.some.inj hc))), H⟩
    · show Sx.StepAt _ _ _ _ _ _ _ 52
      intro L A w up hun hd F H
      have F := Sx.Fr.to F (kv' := [(76, .bool true), (78, .bool true)]) ⟨rfl, rfl, trivial⟩
      refine Sx.step_on rfl (Sx.d_pickT (v := .bool true) F rfl rfl rfl) ?_
      rintro xv w' ⟨hx, rfl⟩
      exact ⟨(fun cv hc => hx.trans (Option.some.inj (Option.some.inj hc))), H⟩
    · show Sx.StepAt _ _ _ _ _ _ _ 53
      intro L A w up hun hd F H
      have F := Sx.Fr.to F (kv' := [(79, .bool true)]) ⟨rfl, trivial⟩
      refine Sx.step_on rfl (Sx.d_move F (Or.inl rfl) rfl) ?_
      rintro xv w' ⟨hx, rfl⟩
      exact ⟨(fun cv hc => hx.trans (Option.some.inj (Option.some.inj hc))), H⟩
    · show Sx.StepAt _ _ _ _ _ _ _ 54
      intro L A w up hun hd F H
      have F := Sx.Fr.to F (kv' := [(6, .pointer (some ⟨g4, 0, none⟩)), (80, .bool true)]) ⟨rfl, rfl, trivial⟩
      refine Sx.step_ong rfl (Sx.guard_known (d := 80) (b := true) F rfl rfl) rfl (Sx.d_load (i := 0) (xs := [.int .u64 ((Wd.hi (Af.inv 18446744073709551615#128)).toNat), .int .u64 ((Wd.lo (Af.inv 18446744073709551615#128)).toNat)]) rw_24 F H rfl rfl rfl rfl rfl) ?_
      rintro xv w' ⟨hx, rfl⟩
      exact ⟨(fun cv hc => hx.trans (Option.some.inj (Option.some.inj hc))), H⟩
    · show Sx.StepAt _ _ _ _ _ _ _ 55
      intro L A w up hun hd F H
      have F := Sx.Fr.to F (kv' := [(80, .bool true)]) ⟨rfl, trivial⟩
      refine Sx.step_ong rfl (Sx.guard_known (d := 80) (b := true) F rfl rfl) rfl (Sx.d_call (vs := [.int .u64 18446744073709551615]) (v := .agg #[.int .u64 ((Wd.hi 18446744073709551615#128).toNat), .int .u64 ((Wd.lo 18446744073709551615#128).toNat)]) if_29 F H rfl rfl (Calls.val (wofV_c 18446744073709551615#64 _) (by kernel_rfl) (by kernel_rfl))) ?_
      rintro xv w' ⟨hx, H⟩
      exact ⟨(fun cv hc => hx.trans (Option.some.inj (Option.some.inj hc))), H⟩
    · show Sx.StepAt _ _ _ _ _ _ _ 56
      intro L A w up hun hd F H
      have F := Sx.Fr.to F (kv' := [(81, .agg #[.int .u64 ((Wd.hi (Af.inv 18446744073709551615#128)).toNat), .int .u64 ((Wd.lo (Af.inv 18446744073709551615#128)).toNat)]), (82, .agg #[.int .u64 ((Wd.hi 18446744073709551615#128).toNat), .int .u64 ((Wd.lo 18446744073709551615#128).toNat)]), (80, .bool true)]) ⟨rfl, rfl, rfl, trivial⟩
      refine Sx.step_ong rfl (Sx.guard_known (d := 80) (b := true) F rfl rfl) rfl (Sx.d_call (vs := [.agg #[.int .u64 ((Wd.hi (Af.inv 18446744073709551615#128)).toNat), .int .u64 ((Wd.lo (Af.inv 18446744073709551615#128)).toNat)], .agg #[.int .u64 ((Wd.hi 18446744073709551615#128).toNat), .int .u64 ((Wd.lo 18446744073709551615#128).toNat)]]) (v := .agg #[.int .u64 ((Wd.hi ((Af.inv 18446744073709551615#128) * 18446744073709551615#128)).toNat), .int .u64 ((Wd.lo ((Af.inv 18446744073709551615#128) * 18446744073709551615#128)).toNat)]) if_31 F H rfl rfl (wmul_c (Af.inv 18446744073709551615#128) 18446744073709551615#128 _)) ?_
      rintro xv w' ⟨hx, H⟩
      exact ⟨(fun cv hc => hx.trans (Option.some.inj (Option.some.inj hc))), H⟩
    · show Sx.StepAt _ _ _ _ _ _ _ 57
      intro L A w up hun hd F H
      have F := Sx.Fr.to F (kv' := [(80, .bool true)]) ⟨rfl, trivial⟩
      refine Sx.step_ong rfl (Sx.guard_known (d := 80) (b := true) F rfl rfl) rfl (Sx.d_call (vs := [.int .u64 1]) (v := .agg #[.int .u64 ((Wd.hi 1#128).toNat), .int .u64 ((Wd.lo 1#128).toNat)]) if_29 F H rfl rfl (Calls.val (wofV_c 1#64 _) (by kernel_rfl) (by kernel_rfl))) ?_
      rintro xv w' ⟨hx, H⟩
      exact ⟨(fun cv hc => hx.trans (Option.some.inj (Option.some.inj hc))), H⟩
    · show Sx.StepAt _ _ _ _ _ _ _ 58
      intro L A w up hun hd F H
      have F := Sx.Fr.to F (kv' := [(83, .agg #[.int .u64 ((Wd.hi ((Af.inv 18446744073709551615#128) * 18446744073709551615#128)).toNat), .int .u64 ((Wd.lo ((Af.inv 18446744073709551615#128) * 18446744073709551615#128)).toNat)]), (84, .agg #[.int .u64 ((Wd.hi 1#128).toNat), .int .u64 ((Wd.lo 1#128).toNat)]), (80, .bool true)]) ⟨rfl, rfl, rfl, trivial⟩
      refine Sx.step_ong rfl (Sx.guard_known (d := 80) (b := true) F rfl rfl) rfl (Sx.d_bin (v := .bool true) F rfl rfl rfl (Sx.i_eqV (by kernel_rfl))) ?_
      rintro xv w' ⟨hx, rfl⟩
      exact ⟨(fun cv hc => hx.trans (Option.some.inj (Option.some.inj hc))), H⟩
    · show Sx.StepAt _ _ _ _ _ _ _ 59
      intro L A w up hun hd F H
      have F := Sx.Fr.to F (kv' := [(80, .bool true), (85, .bool true)]) ⟨rfl, rfl, trivial⟩
      refine Sx.step_on rfl (Sx.d_pickT (v := .bool true) F rfl rfl rfl) ?_
      rintro xv w' ⟨hx, rfl⟩
      exact ⟨(fun cv hc => hx.trans (Option.some.inj (Option.some.inj hc))), H⟩
    · show Sx.StepAt _ _ _ _ _ _ _ 60
      intro L A w up hun hd F H
      have F := Sx.Fr.to F (kv' := [(86, .bool true)]) ⟨rfl, trivial⟩
      refine Sx.step_on rfl (Sx.d_move F (Or.inl rfl) rfl) ?_
      rintro xv w' ⟨hx, rfl⟩
      exact ⟨(fun cv hc => hx.trans (Option.some.inj (Option.some.inj hc))), H⟩
    · show Sx.StepAt _ _ _ _ _ _ _ 61
      intro L A w up hun hd F H
      have F := Sx.Fr.to F (kv' := [(7, .int .i64 0), (87, .bool true)]) ⟨rfl, rfl, trivial⟩
      refine Sx.step_ong rfl (Sx.guard_known (d := 87) (b := true) F rfl rfl) rfl (Sx.d_move F (Or.inl rfl) rfl) ?_
      rintro xv w' ⟨hx, rfl⟩
      exact ⟨(fun cv hc => hx.trans (Option.some.inj (Option.some.inj hc))), H⟩
    · show Sx.StepAt _ _ _ _ _ _ _ 62
      intro L A w up hun hd F H
      have F := Sx.Fr.to F (kv' := [(88, .int .i64 0), (87, .bool true)]) ⟨rfl, rfl, trivial⟩
      refine Sx.step_ong rfl (Sx.guard_known (d := 87) (b := true) F rfl rfl) rfl (Sx.d_bin (v := .bool true) F rfl rfl rfl (Sx.i_eq (by decide))) ?_
      rintro xv w' ⟨hx, rfl⟩
      exact ⟨(fun cv hc => hx.trans (Option.some.inj (Option.some.inj hc))), H⟩
    · show Sx.StepAt _ _ _ _ _ _ _ 63
      intro L A w up hun hd F H
      have F := Sx.Fr.to F (kv' := [(87, .bool true), (89, .bool true)]) ⟨rfl, rfl, trivial⟩
      refine Sx.step_on rfl (Sx.d_pickT (v := .bool true) F rfl rfl rfl) ?_
      rintro xv w' ⟨hx, rfl⟩
      exact ⟨(fun cv hc => hx.trans (Option.some.inj (Option.some.inj hc))), H⟩
    · show Sx.StepAt _ _ _ _ _ _ _ 64
      intro L A w up hun hd F H
      have F := Sx.Fr.to F (kv' := [(90, .bool true)]) ⟨rfl, trivial⟩
      refine Sx.step_on rfl (Sx.d_move F (Or.inr rfl) rfl) ?_
      rintro xv w' ⟨hx, rfl⟩
      exact ⟨(fun cv hc => hx.trans (Option.some.inj (Option.some.inj hc))), H⟩
  · intro L A w hL F H
    have F := Sx.Fr.to F (kv' := [(8, .agg #[.int .u64 ((Wd.hi 3#128).toNat), .int .u64 ((Wd.lo 3#128).toNat)]), (9, .agg #[.int .u64 ((Wd.hi 1#128).toNat), .int .u64 ((Wd.lo 1#128).toNat)]), (10, .agg #[.int .u64 ((Wd.hi 3#128).toNat), .int .u64 ((Wd.lo 3#128).toNat), .int .u64 ((Wd.hi 1#128).toNat), .int .u64 ((Wd.lo 1#128).toNat)]), (1, .pointer (some ⟨g1, 0, none⟩)), (12, .agg #[.int .u64 ((Wd.hi 3#128).toNat), .int .u64 ((Wd.lo 3#128).toNat), .int .u64 ((Wd.hi 1#128).toNat), .int .u64 ((Wd.lo 1#128).toNat)]), (13, .tuple #[.agg #[.int .u64 ((Wd.hi (Af.inv 3#128)).toNat), .int .u64 ((Wd.lo (Af.inv 3#128)).toNat), .int .u64 ((Wd.hi (Af.inv 3#128 * (0#128 - 1#128))).toNat), .int .u64 ((Wd.lo (Af.inv 3#128 * (0#128 - 1#128))).toNat)], .int .i64 0]), (11, .tuple #[.agg #[.int .u64 ((Wd.hi (Af.inv 3#128)).toNat), .int .u64 ((Wd.lo (Af.inv 3#128)).toNat), .int .u64 ((Wd.hi (Af.inv 3#128 * (0#128 - 1#128))).toNat), .int .u64 ((Wd.lo (Af.inv 3#128 * (0#128 - 1#128))).toNat)], .int .i64 0]), (14, .agg #[.int .u64 ((Wd.hi (Af.inv 3#128)).toNat), .int .u64 ((Wd.lo (Af.inv 3#128)).toNat), .int .u64 ((Wd.hi (Af.inv 3#128 * (0#128 - 1#128))).toNat), .int .u64 ((Wd.lo (Af.inv 3#128 * (0#128 - 1#128))).toNat)]), (15, .int .i64 0), (2, .pointer (some ⟨g2, 0, none⟩)), (17, .agg #[.int .u64 ((Wd.hi 2#128).toNat), .int .u64 ((Wd.lo 2#128).toNat)]), (18, .agg #[.int .u64 ((Wd.hi 2#128).toNat), .int .u64 ((Wd.lo 2#128).toNat), .int .u64 ((Wd.hi 0#128).toNat), .int .u64 ((Wd.lo 0#128).toNat)]), (19, .tuple #[.agg #[.int .u64 ((Wd.hi 0#128).toNat), .int .u64 ((Wd.lo 0#128).toNat), .int .u64 ((Wd.hi 0#128).toNat), .int .u64 ((Wd.lo 0#128).toNat)], .int .i64 1]), (16, .tuple #[.agg #[.int .u64 ((Wd.hi 0#128).toNat), .int .u64 ((Wd.lo 0#128).toNat), .int .u64 ((Wd.hi 0#128).toNat), .int .u64 ((Wd.lo 0#128).toNat)], .int .i64 1]), (20, .agg #[.int .u64 ((Wd.hi 0#128).toNat), .int .u64 ((Wd.lo 0#128).toNat), .int .u64 ((Wd.hi 0#128).toNat), .int .u64 ((Wd.lo 0#128).toNat)]), (21, .int .i64 1), (4, .pointer (some ⟨g3, 0, none⟩)), (23, .agg #[.int .u64 ((Wd.hi 18446744073709551615#128).toNat), .int .u64 ((Wd.lo 18446744073709551615#128).toNat)]), (24, .tuple #[.agg #[.int .u64 ((Wd.hi (Af.inv 18446744073709551615#128)).toNat), .int .u64 ((Wd.lo (Af.inv 18446744073709551615#128)).toNat)], .int .i64 0]), (22, .tuple #[.agg #[.int .u64 ((Wd.hi (Af.inv 18446744073709551615#128)).toNat), .int .u64 ((Wd.lo (Af.inv 18446744073709551615#128)).toNat)], .int .i64 0]), (25, .agg #[.int .u64 ((Wd.hi (Af.inv 18446744073709551615#128)).toNat), .int .u64 ((Wd.lo (Af.inv 18446744073709551615#128)).toNat)]), (26, .int .i64 0), (6, .pointer (some ⟨g4, 0, none⟩)), (0, .bool true)]) ⟨rfl, rfl, rfl, rfl, rfl, rfl, rfl, rfl, rfl, rfl, rfl, rfl, rfl, rfl, rfl, rfl, rfl, rfl, rfl, rfl, rfl, rfl, rfl, rfl, trivial⟩
    refine hK6 _ _ ?_
    refine wp_ret ?_
    try dsimp only [Exit.then, Exit.inBlock, Exit.jump]
    refine Sx.ret1 F Try.results15 (Sx.res_tmp (v := .bool true) F rfl) ⟨?_, H.below⟩
    rfl
end Go.Proofs.Ytpbdffmgendboaa
