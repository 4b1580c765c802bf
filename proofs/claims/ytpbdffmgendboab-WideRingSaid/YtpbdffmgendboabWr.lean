/- WideRing walked. -/
import Derived.Test.YtpbdffmgendboabAw
namespace Go.Proofs.Ytpbdffmgendboab
open Go Go.RowKit
set_option maxHeartbeats 4000000 in
set_option maxRecDepth 100000 in
theorem wideRing_walk (da db dc : BitVec 128) (w0 : World) : Calls Try.prog 3 #[.agg #[.int .u64 ((Wd.hi da).toNat), .int .u64 ((Wd.lo da).toNat)], .agg #[.int .u64 ((Wd.hi db).toNat), .int .u64 ((Wd.lo db).toNat)], .agg #[.int .u64 ((Wd.hi dc).toNat), .int .u64 ((Wd.lo dc).toNat)]] w0 fun e w' => e = .returned (.bool true) ∧ Below w0.heap.size w0 w' := by
  refine Sx.enter (args := [.agg #[.int .u64 ((Wd.hi da).toNat), .int .u64 ((Wd.lo da).toNat)], .agg #[.int .u64 ((Wd.hi db).toNat), .int .u64 ((Wd.lo db).toNat)], .agg #[.int .u64 ((Wd.hi dc).toNat), .int .u64 ((Wd.lo dc).toNat)]]) Try.func3 rfl Try.ntmps3 (Nat.le_of_ble_eq_true rfl) (fun A F => ?_)
  have H := Sx.Own.start w0
  refine Sx.seq (fun K1 hK1 => ?_)
  refine Sx.plain ?_
  refine Sx.sb F (Sx.d_box F H rfl rfl [.int .u64 ((Wd.hi da).toNat), .int .u64 ((Wd.lo da).toNat)] rfl) (Sx.wanted_none rfl _) rfl (by decide) (fun g1 A w F H => ?_)
  refine Sx.sb F (Sx.d_box F H rfl rfl [.int .u64 ((Wd.hi db).toNat), .int .u64 ((Wd.lo db).toNat)] rfl) (Sx.wanted_none rfl _) rfl (by decide) (fun g2 A w F H => ?_)
  refine Sx.sb F (Sx.d_box F H rfl rfl [.int .u64 ((Wd.hi dc).toNat), .int .u64 ((Wd.lo dc).toNat)] rfl) (Sx.wanted_none rfl _) rfl (by decide) (fun g3 A w F H => ?_)
  refine Sx.sv F (Sx.d_move F (Or.inr rfl) rfl) (Sx.wanted_none rfl _) rfl (by decide) (fun A F => ?_)
  refine Sx.nil ?_
  refine hK1 _ _ ?_
  refine Sx.seq (fun K2 hK2 => ?_)
  refine Sx.seq (fun K3 hK3 => ?_)
  refine Sx.plain ?_
  refine Sx.sw F (Sx.d_call (vs := []) (v := .bool true) if_10 F H rfl rfl (awake01_c _)) (Sx.wanted_none rfl _) rfl (by decide) (fun A w F H => ?_)
  refine Sx.sv F (Sx.d_un (v := .bool false) F rfl rfl rfl) (Sx.wanted_none rfl _) rfl (by decide) (fun A F => ?_)
  refine Sx.nil ?_
  refine hK3 _ _ ?_
  refine Sx.condF F rfl ?_
  refine wp_skip ?_
  refine hK2 _ _ ?_
  refine Sx.seq (fun K4 hK4 => ?_)
  refine Sx.plain ?_
  refine Sx.sv F (Sx.d_load (i := 2) (xs := [.int .u64 ((Wd.hi da).toNat), .int .u64 ((Wd.lo da).toNat)]) rw_24 F H rfl rfl rfl rfl rfl) (Sx.wanted_none rfl _) rfl (by decide) (fun A F => ?_)
  refine Sx.sv F (Sx.d_load (i := 1) (xs := [.int .u64 ((Wd.hi db).toNat), .int .u64 ((Wd.lo db).toNat)]) rw_24 F H rfl rfl rfl rfl rfl) (Sx.wanted_none rfl _) rfl (by decide) (fun A F => ?_)
  refine Sx.sw F (Sx.d_call (vs := [.agg #[.int .u64 ((Wd.hi da).toNat), .int .u64 ((Wd.lo da).toNat)], .agg #[.int .u64 ((Wd.hi db).toNat), .int .u64 ((Wd.lo db).toNat)]]) (v := .tuple #[.agg #[.int .u64 ((Wd.hi (da + db)).toNat), .int .u64 ((Wd.lo (da + db)).toNat)], .bool (Wd.over da db)]) if_11 F H rfl rfl (wadd_c da db _)) (Sx.wanted_none rfl _) rfl (by decide) (fun A w F H => ?_)
  refine Sx.sv F (Sx.d_move F (Or.inl rfl) rfl) (Sx.wanted_none rfl _) rfl (by decide) (fun A F => ?_)
  refine Sx.sv F (Sx.d_extract (v := .agg #[.int .u64 ((Wd.hi (da + db)).toNat), .int .u64 ((Wd.lo (da + db)).toNat)]) F rfl rfl rfl) (Sx.wanted_none rfl _) rfl (by decide) (fun A F => ?_)
  refine Sx.sv F (Sx.d_extract (v := .bool (Wd.over da db)) F rfl rfl rfl) (Sx.wanted_none rfl _) rfl (by decide) (fun A F => ?_)
  refine Sx.sb F (Sx.d_alloc H rfl [.int .u64 ((Wd.hi 0#128).toNat), .int .u64 ((Wd.lo 0#128).toNat)] zero_24) (Sx.wanted_none rfl _) rfl (by decide) (fun g4 A w F H => ?_)
  refine Sx.ss F (Sx.d_store (i := 0) (xs := [.int .u64 ((Wd.hi (da + db)).toNat), .int .u64 ((Wd.lo (da + db)).toNat)]) (us := [.int .u64 ((Wd.hi (da + db)).toNat), .int .u64 ((Wd.lo (da + db)).toNat)]) sz_24 F H rfl rfl rfl rfl rfl rfl rfl (Nat.le_of_ble_eq_true rfl) rfl) (Sx.wanted_none rfl _) rfl (fun A w F (H : Sx.Own w0 _ [(true, g4, [.int .u64 ((Wd.hi (da + db)).toNat), .int .u64 ((Wd.lo (da + db)).toNat)]), (true, g3, [.int .u64 ((Wd.hi dc).toNat), .int .u64 ((Wd.lo dc).toNat)]), (true, g2, [.int .u64 ((Wd.hi db).toNat), .int .u64 ((Wd.lo db).toNat)]), (true, g1, [.int .u64 ((Wd.hi da).toNat), .int .u64 ((Wd.lo da).toNat)])] []) => ?_)
  refine Sx.sv F (Sx.d_move F (Or.inr rfl) rfl) (Sx.wanted_none rfl _) rfl (by decide) (fun A F => ?_)
  refine Sx.nil ?_
  refine hK4 _ _ ?_
  refine Sx.seq (fun K5 hK5 => ?_)
  refine Sx.plain ?_
  refine Sx.sv F (Sx.d_load (i := 2) (xs := [.int .u64 ((Wd.hi db).toNat), .int .u64 ((Wd.lo db).toNat)]) rw_24 F H rfl rfl rfl rfl rfl) (Sx.wanted_none rfl _) rfl (by decide) (fun A F => ?_)
  refine Sx.sv F (Sx.d_load (i := 3) (xs := [.int .u64 ((Wd.hi da).toNat), .int .u64 ((Wd.lo da).toNat)]) rw_24 F H rfl rfl rfl rfl rfl) (Sx.wanted_none rfl _) rfl (by decide) (fun A F => ?_)
  refine Sx.sw F (Sx.d_call (vs := [.agg #[.int .u64 ((Wd.hi db).toNat), .int .u64 ((Wd.lo db).toNat)], .agg #[.int .u64 ((Wd.hi da).toNat), .int .u64 ((Wd.lo da).toNat)]]) (v := .tuple #[.agg #[.int .u64 ((Wd.hi (db + da)).toNat), .int .u64 ((Wd.lo (db + da)).toNat)], .bool (Wd.over db da)]) if_11 F H rfl rfl (wadd_c db da _)) (Sx.wanted_none rfl _) rfl (by decide) (fun A w F H => ?_)
  refine Sx.sv F (Sx.d_move F (Or.inl rfl) rfl) (Sx.wanted_none rfl _) rfl (by decide) (fun A F => ?_)
  refine Sx.sv F (Sx.d_extract (v := .agg #[.int .u64 ((Wd.hi (db + da)).toNat), .int .u64 ((Wd.lo (db + da)).toNat)]) F rfl rfl rfl) (Sx.wanted_none rfl _) rfl (by decide) (fun A F => ?_)
  refine Sx.sv F (Sx.d_extract (v := .bool (Wd.over db da)) F rfl rfl rfl) (Sx.wanted_none rfl _) rfl (by decide) (fun A F => ?_)
  refine Sx.sb F (Sx.d_alloc H rfl [.int .u64 ((Wd.hi 0#128).toNat), .int .u64 ((Wd.lo 0#128).toNat)] zero_24) (Sx.wanted_none rfl _) rfl (by decide) (fun g5 A w F H => ?_)
  refine Sx.ss F (Sx.d_store (i := 0) (xs := [.int .u64 ((Wd.hi (db + da)).toNat), .int .u64 ((Wd.lo (db + da)).toNat)]) (us := [.int .u64 ((Wd.hi (db + da)).toNat), .int .u64 ((Wd.lo (db + da)).toNat)]) sz_24 F H rfl rfl rfl rfl rfl rfl rfl (Nat.le_of_ble_eq_true rfl) rfl) (Sx.wanted_none rfl _) rfl (fun A w F (H : Sx.Own w0 _ [(true, g5, [.int .u64 ((Wd.hi (db + da)).toNat), .int .u64 ((Wd.lo (db + da)).toNat)]), (true, g4, [.int .u64 ((Wd.hi (da + db)).toNat), .int .u64 ((Wd.lo (da + db)).toNat)]), (true, g3, [.int .u64 ((Wd.hi dc).toNat), .int .u64 ((Wd.lo dc).toNat)]), (true, g2, [.int .u64 ((Wd.hi db).toNat), .int .u64 ((Wd.lo db).toNat)]), (true, g1, [.int .u64 ((Wd.hi da).toNat), .int .u64 ((Wd.lo da).toNat)])] []) => ?_)
  refine Sx.sv F (Sx.d_move F (Or.inr rfl) rfl) (Sx.wanted_none rfl _) rfl (by decide) (fun A F => ?_)
  refine Sx.nil ?_
  refine hK5 _ _ ?_
  refine Sx.seq (fun K6 hK6 => ?_)
  refine Sx.plain ?_
  refine Sx.sv F (Sx.d_load (i := 3) (xs := [.int .u64 ((Wd.hi db).toNat), .int .u64 ((Wd.lo db).toNat)]) rw_24 F H rfl rfl rfl rfl rfl) (Sx.wanted_none rfl _) rfl (by decide) (fun A F => ?_)
  refine Sx.sv F (Sx.d_load (i := 2) (xs := [.int .u64 ((Wd.hi dc).toNat), .int .u64 ((Wd.lo dc).toNat)]) rw_24 F H rfl rfl rfl rfl rfl) (Sx.wanted_none rfl _) rfl (by decide) (fun A F => ?_)
  refine Sx.sw F (Sx.d_call (vs := [.agg #[.int .u64 ((Wd.hi db).toNat), .int .u64 ((Wd.lo db).toNat)], .agg #[.int .u64 ((Wd.hi dc).toNat), .int .u64 ((Wd.lo dc).toNat)]]) (v := .tuple #[.agg #[.int .u64 ((Wd.hi (db + dc)).toNat), .int .u64 ((Wd.lo (db + dc)).toNat)], .bool (Wd.over db dc)]) if_11 F H rfl rfl (wadd_c db dc _)) (Sx.wanted_none rfl _) rfl (by decide) (fun A w F H => ?_)
  refine Sx.sv F (Sx.d_move F (Or.inl rfl) rfl) (Sx.wanted_none rfl _) rfl (by decide) (fun A F => ?_)
  refine Sx.sv F (Sx.d_extract (v := .agg #[.int .u64 ((Wd.hi (db + dc)).toNat), .int .u64 ((Wd.lo (db + dc)).toNat)]) F rfl rfl rfl) (Sx.wanted_none rfl _) rfl (by decide) (fun A F => ?_)
  refine Sx.sv F (Sx.d_extract (v := .bool (Wd.over db dc)) F rfl rfl rfl) (Sx.wanted_none rfl _) rfl (by decide) (fun A F => ?_)
  refine Sx.sb F (Sx.d_alloc H rfl [.int .u64 ((Wd.hi 0#128).toNat), .int .u64 ((Wd.lo 0#128).toNat)] zero_24) (Sx.wanted_none rfl _) rfl (by decide) (fun g6 A w F H => ?_)
  refine Sx.ss F (Sx.d_store (i := 0) (xs := [.int .u64 ((Wd.hi (db + dc)).toNat), .int .u64 ((Wd.lo (db + dc)).toNat)]) (us := [.int .u64 ((Wd.hi (db + dc)).toNat), .int .u64 ((Wd.lo (db + dc)).toNat)]) sz_24 F H rfl rfl rfl rfl rfl rfl rfl (Nat.le_of_ble_eq_true rfl) rfl) (Sx.wanted_none rfl _) rfl (fun A w F (H : Sx.Own w0 _ [(true, g6, [.int .u64 ((Wd.hi (db + dc)).toNat), .int .u64 ((Wd.lo (db + dc)).toNat)]), (true, g5, [.int .u64 ((Wd.hi (db + da)).toNat), .int .u64 ((Wd.lo (db + da)).toNat)]), (true, g4, [.int .u64 ((Wd.hi (da + db)).toNat), .int .u64 ((Wd.lo (da + db)).toNat)]), (true, g3, [.int .u64 ((Wd.hi dc).toNat), .int .u64 ((Wd.lo dc).toNat)]), (true, g2, [.int .u64 ((Wd.hi db).toNat), .int .u64 ((Wd.lo db).toNat)]), (true, g1, [.int .u64 ((Wd.hi da).toNat), .int .u64 ((Wd.lo da).toNat)])] []) => ?_)
  refine Sx.sv F (Sx.d_move F (Or.inr rfl) rfl) (Sx.wanted_none rfl _) rfl (by decide) (fun A F => ?_)
  refine Sx.nil ?_
  refine hK6 _ _ ?_
  refine Sx.seq (fun K7 hK7 => ?_)
  refine Sx.plain ?_
  refine Sx.sv F (Sx.d_load (i := 2) (xs := [.int .u64 ((Wd.hi (da + db)).toNat), .int .u64 ((Wd.lo (da + db)).toNat)]) rw_24 F H rfl rfl rfl rfl rfl) (Sx.wanted_none rfl _) rfl (by decide) (fun A F => ?_)
  refine Sx.sv F (Sx.d_load (i := 3) (xs := [.int .u64 ((Wd.hi dc).toNat), .int .u64 ((Wd.lo dc).toNat)]) rw_24 F H rfl rfl rfl rfl rfl) (Sx.wanted_none rfl _) rfl (by decide) (fun A F => ?_)
  refine Sx.sw F (Sx.d_call (vs := [.agg #[.int .u64 ((Wd.hi (da + db)).toNat), .int .u64 ((Wd.lo (da + db)).toNat)], .agg #[.int .u64 ((Wd.hi dc).toNat), .int .u64 ((Wd.lo dc).toNat)]]) (v := .tuple #[.agg #[.int .u64 ((Wd.hi ((da + db) + dc)).toNat), .int .u64 ((Wd.lo ((da + db) + dc)).toNat)], .bool (Wd.over (da + db) dc)]) if_11 F H rfl rfl (wadd_c (da + db) dc _)) (Sx.wanted_none rfl _) rfl (by decide) (fun A w F H => ?_)
  refine Sx.sv F (Sx.d_move F (Or.inl rfl) rfl) (Sx.wanted_none rfl _) rfl (by decide) (fun A F => ?_)
  refine Sx.sv F (Sx.d_extract (v := .agg #[.int .u64 ((Wd.hi ((da + db) + dc)).toNat), .int .u64 ((Wd.lo ((da + db) + dc)).toNat)]) F rfl rfl rfl) (Sx.wanted_none rfl _) rfl (by decide) (fun A F => ?_)
  refine Sx.sv F (Sx.d_extract (v := .bool (Wd.over (da + db) dc)) F rfl rfl rfl) (Sx.wanted_none rfl _) rfl (by decide) (fun A F => ?_)
  refine Sx.sb F (Sx.d_alloc H rfl [.int .u64 ((Wd.hi 0#128).toNat), .int .u64 ((Wd.lo 0#128).toNat)] zero_24) (Sx.wanted_none rfl _) rfl (by decide) (fun g7 A w F H => ?_)
  refine Sx.ss F (Sx.d_store (i := 0) (xs := [.int .u64 ((Wd.hi ((da + db) + dc)).toNat), .int .u64 ((Wd.lo ((da + db) + dc)).toNat)]) (us := [.int .u64 ((Wd.hi ((da + db) + dc)).toNat), .int .u64 ((Wd.lo ((da + db) + dc)).toNat)]) sz_24 F H rfl rfl rfl rfl rfl rfl rfl (Nat.le_of_ble_eq_true rfl) rfl) (Sx.wanted_none rfl _) rfl (fun A w F (H : Sx.Own w0 _ [(true, g7, [.int .u64 ((Wd.hi ((da + db) + dc)).toNat), .int .u64 ((Wd.lo ((da + db) + dc)).toNat)]), (true, g6, [.int .u64 ((Wd.hi (db + dc)).toNat), .int .u64 ((Wd.lo (db + dc)).toNat)]), (true, g5, [.int .u64 ((Wd.hi (db + da)).toNat), .int .u64 ((Wd.lo (db + da)).toNat)]), (true, g4, [.int .u64 ((Wd.hi (da + db)).toNat), .int .u64 ((Wd.lo (da + db)).toNat)]), (true, g3, [.int .u64 ((Wd.hi dc).toNat), .int .u64 ((Wd.lo dc).toNat)]), (true, g2, [.int .u64 ((Wd.hi db).toNat), .int .u64 ((Wd.lo db).toNat)]), (true, g1, [.int .u64 ((Wd.hi da).toNat), .int .u64 ((Wd.lo da).toNat)])] []) => ?_)
  refine Sx.sv F (Sx.d_move F (Or.inr rfl) rfl) (Sx.wanted_none rfl _) rfl (by decide) (fun A F => ?_)
  refine Sx.nil ?_
  refine hK7 _ _ ?_
  refine Sx.seq (fun K8 hK8 => ?_)
  refine Sx.plain ?_
  refine Sx.sv F (Sx.d_load (i := 6) (xs := [.int .u64 ((Wd.hi da).toNat), .int .u64 ((Wd.lo da).toNat)]) rw_24 F H rfl rfl rfl rfl rfl) (Sx.wanted_none rfl _) rfl (by decide) (fun A F => ?_)
  refine Sx.sv F (Sx.d_load (i := 1) (xs := [.int .u64 ((Wd.hi (db + dc)).toNat), .int .u64 ((Wd.lo (db + dc)).toNat)]) rw_24 F H rfl rfl rfl rfl rfl) (Sx.wanted_none rfl _) rfl (by decide) (fun A F => ?_)
  refine Sx.sw F (Sx.d_call (vs := [.agg #[.int .u64 ((Wd.hi da).toNat), .int .u64 ((Wd.lo da).toNat)], .agg #[.int .u64 ((Wd.hi (db + dc)).toNat), .int .u64 ((Wd.lo (db + dc)).toNat)]]) (v := .tuple #[.agg #[.int .u64 ((Wd.hi (da + (db + dc))).toNat), .int .u64 ((Wd.lo (da + (db + dc))).toNat)], .bool (Wd.over da (db + dc))]) if_11 F H rfl rfl (wadd_c da (db + dc) _)) (Sx.wanted_none rfl _) rfl (by decide) (fun A w F H => ?_)
  refine Sx.sv F (Sx.d_move F (Or.inl rfl) rfl) (Sx.wanted_none rfl _) rfl (by decide) (fun A F => ?_)
  refine Sx.sv F (Sx.d_extract (v := .agg #[.int .u64 ((Wd.hi (da + (db + dc))).toNat), .int .u64 ((Wd.lo (da + (db + dc))).toNat)]) F rfl rfl rfl) (Sx.wanted_none rfl _) rfl (by decide) (fun A F => ?_)
  refine Sx.sv F (Sx.d_extract (v := .bool (Wd.over da (db + dc))) F rfl rfl rfl) (Sx.wanted_none rfl _) rfl (by decide) (fun A F => ?_)
  refine Sx.sb F (Sx.d_alloc H rfl [.int .u64 ((Wd.hi 0#128).toNat), .int .u64 ((Wd.lo 0#128).toNat)] zero_24) (Sx.wanted_none rfl _) rfl (by decide) (fun g8 A w F H => ?_)
  refine Sx.ss F (Sx.d_store (i := 0) (xs := [.int .u64 ((Wd.hi (da + (db + dc))).toNat), .int .u64 ((Wd.lo (da + (db + dc))).toNat)]) (us := [.int .u64 ((Wd.hi (da + (db + dc))).toNat), .int .u64 ((Wd.lo (da + (db + dc))).toNat)]) sz_24 F H rfl rfl rfl rfl rfl rfl rfl (Nat.le_of_ble_eq_true rfl) rfl) (Sx.wanted_none rfl _) rfl (fun A w F (H : Sx.Own w0 _ [(true, g8, [.int .u64 ((Wd.hi (da + (db + dc))).toNat), .int .u64 ((Wd.lo (da + (db + dc))).toNat)]), (true, g7, [.int .u64 ((Wd.hi ((da + db) + dc)).toNat), .int .u64 ((Wd.lo ((da + db) + dc)).toNat)]), (true, g6, [.int .u64 ((Wd.hi (db + dc)).toNat), .int .u64 ((Wd.lo (db + dc)).toNat)]), (true, g5, [.int .u64 ((Wd.hi (db + da)).toNat), .int .u64 ((Wd.lo (db + da)).toNat)]), (true, g4, [.int .u64 ((Wd.hi (da + db)).toNat), .int .u64 ((Wd.lo (da + db)).toNat)]), (true, g3, [.int .u64 ((Wd.hi dc).toNat), .int .u64 ((Wd.lo dc).toNat)]), (true, g2, [.int .u64 ((Wd.hi db).toNat), .int .u64 ((Wd.lo db).toNat)]), (true, g1, [.int .u64 ((Wd.hi da).toNat), .int .u64 ((Wd.lo da).toNat)])] []) => ?_)
  refine Sx.sv F (Sx.d_move F (Or.inr rfl) rfl) (Sx.wanted_none rfl _) rfl (by decide) (fun A F => ?_)
  refine Sx.nil ?_
  refine hK8 _ _ ?_
  refine Sx.seq (fun K9 hK9 => ?_)
  refine Sx.plain ?_
  refine Sx.sv F (Sx.d_load (i := 4) (xs := [.int .u64 ((Wd.hi (da + db)).toNat), .int .u64 ((Wd.lo (da + db)).toNat)]) rw_24 F H rfl rfl rfl rfl rfl) (Sx.wanted_none rfl _) rfl (by decide) (fun A F => ?_)
  refine Sx.sv F (Sx.d_load (i := 6) (xs := [.int .u64 ((Wd.hi db).toNat), .int .u64 ((Wd.lo db).toNat)]) rw_24 F H rfl rfl rfl rfl rfl) (Sx.wanted_none rfl _) rfl (by decide) (fun A F => ?_)
  refine Sx.sw F (Sx.d_call (vs := [.agg #[.int .u64 ((Wd.hi (da + db)).toNat), .int .u64 ((Wd.lo (da + db)).toNat)], .agg #[.int .u64 ((Wd.hi db).toNat), .int .u64 ((Wd.lo db).toNat)]]) (v := .tuple #[.agg #[.int .u64 ((Wd.hi ((da + db) - db)).toNat), .int .u64 ((Wd.lo ((da + db) - db)).toNat)], .bool (Wd.less (da + db) db)]) if_12 F H rfl rfl (wsub_c (da + db) db _)) (Sx.wanted_none rfl _) rfl (by decide) (fun A w F H => ?_)
  refine Sx.sv F (Sx.d_move F (Or.inl rfl) rfl) (Sx.wanted_none rfl _) rfl (by decide) (fun A F => ?_)
  refine Sx.sv F (Sx.d_extract (v := .agg #[.int .u64 ((Wd.hi ((da + db) - db)).toNat), .int .u64 ((Wd.lo ((da + db) - db)).toNat)]) F rfl rfl rfl) (Sx.wanted_none rfl _) rfl (by decide) (fun A F => ?_)
  refine Sx.sv F (Sx.d_extract (v := .bool (Wd.less (da + db) db)) F rfl rfl rfl) (Sx.wanted_none rfl _) rfl (by decide) (fun A F => ?_)
  refine Sx.sb F (Sx.d_alloc H rfl [.int .u64 ((Wd.hi 0#128).toNat), .int .u64 ((Wd.lo 0#128).toNat)] zero_24) (Sx.wanted_none rfl _) rfl (by decide) (fun g9 A w F H => ?_)
  refine Sx.ss F (Sx.d_store (i := 0) (xs := [.int .u64 ((Wd.hi ((da + db) - db)).toNat), .int .u64 ((Wd.lo ((da + db) - db)).toNat)]) (us := [.int .u64 ((Wd.hi ((da + db) - db)).toNat), .int .u64 ((Wd.lo ((da + db) - db)).toNat)]) sz_24 F H rfl rfl rfl rfl rfl rfl rfl (Nat.le_of_ble_eq_true rfl) rfl) (Sx.wanted_none rfl _) rfl (fun A w F (H : Sx.Own w0 _ [(true, g9, [.int .u64 ((Wd.hi ((da + db) - db)).toNat), .int .u64 ((Wd.lo ((da + db) - db)).toNat)]), (true, g8, [.int .u64 ((Wd.hi (da + (db + dc))).toNat), .int .u64 ((Wd.lo (da + (db + dc))).toNat)]), (true, g7, [.int .u64 ((Wd.hi ((da + db) + dc)).toNat), .int .u64 ((Wd.lo ((da + db) + dc)).toNat)]), (true, g6, [.int .u64 ((Wd.hi (db + dc)).toNat), .int .u64 ((Wd.lo (db + dc)).toNat)]), (true, g5, [.int .u64 ((Wd.hi (db + da)).toNat), .int .u64 ((Wd.lo (db + da)).toNat)]), (true, g4, [.int .u64 ((Wd.hi (da + db)).toNat), .int .u64 ((Wd.lo (da + db)).toNat)]), (true, g3, [.int .u64 ((Wd.hi dc).toNat), .int .u64 ((Wd.lo dc).toNat)]), (true, g2, [.int .u64 ((Wd.hi db).toNat), .int .u64 ((Wd.lo db).toNat)]), (true, g1, [.int .u64 ((Wd.hi da).toNat), .int .u64 ((Wd.lo da).toNat)])] []) => ?_)
  refine Sx.sv F (Sx.d_move F (Or.inr rfl) rfl) (Sx.wanted_none rfl _) rfl (by decide) (fun A F => ?_)
  refine Sx.nil ?_
  refine hK9 _ _ ?_
  refine Sx.seq (fun K10 hK10 => ?_)
  have F := Sx.Fr.to F (kv' := [(0, .agg #[.int .u64 ((Wd.hi da).toNat), .int .u64 ((Wd.lo da).toNat)]), (1, .agg #[.int .u64 ((Wd.hi db).toNat), .int .u64 ((Wd.lo db).toNat)]), (2, .agg #[.int .u64 ((Wd.hi dc).toNat), .int .u64 ((Wd.lo dc).toNat)]), (3, .pointer (some ⟨g1, 0, none⟩)), (4, .pointer (some ⟨g2, 0, none⟩)), (5, .pointer (some ⟨g3, 0, none⟩)), (6, .bool false), (23, .bool true), (24, .bool false), (26, .agg #[.int .u64 ((Wd.hi da).toNat), .int .u64 ((Wd.lo da).toNat)]), (27, .agg #[.int .u64 ((Wd.hi db).toNat), .int .u64 ((Wd.lo db).toNat)]), (28, .tuple #[.agg #[.int .u64 ((Wd.hi (da + db)).toNat), .int .u64 ((Wd.lo (da + db)).toNat)], .bool (Wd.over da db)]), (25, .tuple #[.agg #[.int .u64 ((Wd.hi (da + db)).toNat), .int .u64 ((Wd.lo (da + db)).toNat)], .bool (Wd.over da db)]), (29, .agg #[.int .u64 ((Wd.hi (da + db)).toNat), .int .u64 ((Wd.lo (da + db)).toNat)]), (30, .bool (Wd.over da db)), (7, .pointer (some ⟨g4, 0, none⟩)), (8, .bool (Wd.over da db)), (32, .agg #[.int .u64 ((Wd.hi db).toNat), .int .u64 ((Wd.lo db).toNat)]), (33, .agg #[.int .u64 ((Wd.hi da).toNat), .int .u64 ((Wd.lo da).toNat)]), (34, .tuple #[.agg #[.int .u64 ((Wd.hi (db + da)).toNat), .int .u64 ((Wd.lo (db + da)).toNat)], .bool (Wd.over db da)]), (31, .tuple #[.agg #[.int .u64 ((Wd.hi (db + da)).toNat), .int .u64 ((Wd.lo (db + da)).toNat)], .bool (Wd.over db da)]), (35, .agg #[.int .u64 ((Wd.hi (db + da)).toNat), .int .u64 ((Wd.lo (db + da)).toNat)]), (36, .bool (Wd.over db da)), (9, .pointer (some ⟨g5, 0, none⟩)), (10, .bool (Wd.over db da)), (38, .agg #[.int .u64 ((Wd.hi db).toNat), .int .u64 ((Wd.lo db).toNat)]), (39, .agg #[.int .u64 ((Wd.hi dc).toNat), .int .u64 ((Wd.lo dc).toNat)]), (40, .tuple #[.agg #[.int .u64 ((Wd.hi (db + dc)).toNat), .int .u64 ((Wd.lo (db + dc)).toNat)], .bool (Wd.over db dc)]), (37, .tuple #[.agg #[.int .u64 ((Wd.hi (db + dc)).toNat), .int .u64 ((Wd.lo (db + dc)).toNat)], .bool (Wd.over db dc)]), (41, .agg #[.int .u64 ((Wd.hi (db + dc)).toNat), .int .u64 ((Wd.lo (db + dc)).toNat)]), (42, .bool (Wd.over db dc)), (11, .pointer (some ⟨g6, 0, none⟩)), (12, .bool (Wd.over db dc)), (44, .agg #[.int .u64 ((Wd.hi (da + db)).toNat), .int .u64 ((Wd.lo (da + db)).toNat)]), (45, .agg #[.int .u64 ((Wd.hi dc).toNat), .int .u64 ((Wd.lo dc).toNat)]), (46, .tuple #[.agg #[.int .u64 ((Wd.hi ((da + db) + dc)).toNat), .int .u64 ((Wd.lo ((da + db) + dc)).toNat)], .bool (Wd.over (da + db) dc)]), (43, .tuple #[.agg #[.int .u64 ((Wd.hi ((da + db) + dc)).toNat), .int .u64 ((Wd.lo ((da + db) + dc)).toNat)], .bool (Wd.over (da + db) dc)]), (47, .agg #[.int .u64 ((Wd.hi ((da + db) + dc)).toNat), .int .u64 ((Wd.lo ((da + db) + dc)).toNat)]), (48, .bool (Wd.over (da + db) dc)), (13, .pointer (some ⟨g7, 0, none⟩)), (14, .bool (Wd.over (da + db) dc)), (50, .agg #[.int .u64 ((Wd.hi da).toNat), .int .u64 ((Wd.lo da).toNat)]), (51, .agg #[.int .u64 ((Wd.hi (db + dc)).toNat), .int .u64 ((Wd.lo (db + dc)).toNat)]), (52, .tuple #[.agg #[.int .u64 ((Wd.hi (da + (db + dc))).toNat), .int .u64 ((Wd.lo (da + (db + dc))).toNat)], .bool (Wd.over da (db + dc))]), (49, .tuple #[.agg #[.int .u64 ((Wd.hi (da + (db + dc))).toNat), .int .u64 ((Wd.lo (da + (db + dc))).toNat)], .bool (Wd.over da (db + dc))]), (53, .agg #[.int .u64 ((Wd.hi (da + (db + dc))).toNat), .int .u64 ((Wd.lo (da + (db + dc))).toNat)]), (54, .bool (Wd.over da (db + dc))), (15, .pointer (some ⟨g8, 0, none⟩)), (16, .bool (Wd.over da (db + dc))), (56, .agg #[.int .u64 ((Wd.hi (da + db)).toNat), .int .u64 ((Wd.lo (da + db)).toNat)]), (57, .agg #[.int .u64 ((Wd.hi db).toNat), .int .u64 ((Wd.lo db).toNat)]), (58, .tuple #[.agg #[.int .u64 ((Wd.hi ((da + db) - db)).toNat), .int .u64 ((Wd.lo ((da + db) - db)).toNat)], .bool (Wd.less (da + db) db)]), (55, .tuple #[.agg #[.int .u64 ((Wd.hi ((da + db) - db)).toNat), .int .u64 ((Wd.lo ((da + db) - db)).toNat)], .bool (Wd.less (da + db) db)]), (59, .agg #[.int .u64 ((Wd.hi ((da + db) - db)).toNat), .int .u64 ((Wd.lo ((da + db) - db)).toNat)]), (60, .bool (Wd.less (da + db) db)), (17, .pointer (some ⟨g9, 0, none⟩)), (18, .bool (Wd.less (da + db) db))]) ⟨rfl, rfl, rfl, rfl, rfl, rfl, rfl, rfl, rfl, rfl, rfl, rfl, rfl, rfl, rfl, rfl, rfl, rfl, rfl, rfl, rfl, rfl, rfl, rfl, rfl, rfl, rfl, rfl, rfl, rfl, rfl, rfl, rfl, rfl, rfl, rfl, rfl, rfl, rfl, rfl, rfl, rfl, rfl, rfl, rfl, rfl, rfl, rfl, rfl, rfl, rfl, rfl, rfl, rfl, rfl, rfl, rfl, trivial⟩
  refine Sx.drawn F (by kernel_rfl) (by kernel_rfl) (by kernel_rfl) [some (.agg #[.int .u64 ((Wd.hi da).toNat), .int .u64 ((Wd.lo da).toNat)]), some (.agg #[.int .u64 ((Wd.hi db).toNat), .int .u64 ((Wd.lo db).toNat)]), some (.agg #[.int .u64 ((Wd.hi (da * db)).toNat), .int .u64 ((Wd.lo (da * db)).toNat)]), some (.agg #[.int .u64 ((Wd.hi da).toNat), .int .u64 ((Wd.lo da).toNat)]), some (.agg #[.int .u64 ((Wd.hi dc).toNat), .int .u64 ((Wd.lo dc).toNat)]), some (.agg #[.int .u64 ((Wd.hi (da * dc)).toNat), .int .u64 ((Wd.lo (da * dc)).toNat)]), some (.tuple #[.agg #[.int .u64 ((Wd.hi ((da * db) + (da * dc))).toNat), .int .u64 ((Wd.lo ((da * db) + (da * dc))).toNat)], .bool (Wd.over (da * db) (da * dc))]), some (.tuple #[.agg #[.int .u64 ((Wd.hi ((da * db) + (da * dc))).toNat), .int .u64 ((Wd.lo ((da * db) + (da * dc))).toNat)], .bool (Wd.over (da * db) (da * dc))]), some (.agg #[.int .u64 ((Wd.hi ((da * db) + (da * dc))).toNat), .int .u64 ((Wd.lo ((da * db) + (da * dc))).toNat)]), some (.bool (Wd.over (da * db) (da * dc))), none, none, some (.bool (Wd.over (da * db) (da * dc)))] (fun L A w => ∃ g10 : Nat, (L 10 = true → A.eval (.tmp 19) = .pointer (some ⟨g10, 0, none⟩)) ∧ Sx.Own w0 w [(true, g9, [.int .u64 ((Wd.hi ((da + db) - db)).toNat), .int .u64 ((Wd.lo ((da + db) - db)).toNat)]), (true, g8, [.int .u64 ((Wd.hi (da + (db + dc))).toNat), .int .u64 ((Wd.lo (da + (db + dc))).toNat)]), (true, g7, [.int .u64 ((Wd.hi ((da + db) + dc)).toNat), .int .u64 ((Wd.lo ((da + db) + dc)).toNat)]), (true, g6, [.int .u64 ((Wd.hi (db + dc)).toNat), .int .u64 ((Wd.lo (db + dc)).toNat)]), (true, g5, [.int .u64 ((Wd.hi (db + da)).toNat), .int .u64 ((Wd.lo (db + da)).toNat)]), (true, g4, [.int .u64 ((Wd.hi (da + db)).toNat), .int .u64 ((Wd.lo (da + db)).toNat)]), (true, g3, [.int .u64 ((Wd.hi dc).toNat), .int .u64 ((Wd.lo dc).toNat)]), (true, g2, [.int .u64 ((Wd.hi db).toNat), .int .u64 ((Wd.lo db).toNat)]), (true, g1, [.int .u64 ((Wd.hi da).toNat), .int .u64 ((Wd.lo da).toNat)]), (L 10, g10, (cond (L 11) [.int .u64 ((Wd.hi ((da * db) + (da * dc))).toNat), .int .u64 ((Wd.lo ((da * db) + (da * dc))).toNat)] [.int .u64 ((Wd.hi 0#128).toNat), .int .u64 ((Wd.lo 0#128).toNat)]))] []) ⟨0, (fun h => by cases h), H.drew.pad [(false, 0, [.int .u64 ((Wd.hi 0#128).toNat), .int .u64 ((Wd.lo 0#128).toNat)])] rfl [] rfl⟩ ?_ ?_
  · refine ⟨?_, ?_, ?_, ?_, ?_, ?_, ?_, ?_, ?_, ?_, ?_, ?_, ?_, trivial⟩
    · show Sx.StepAt _ _ _ _ _ _ _ 0
      intro L A w up hun hd F ⟨g10, p10, H⟩
      have f11 : L 11 = false := up 11 0 rfl hun
      rw [f11] at H
      have F := Sx.Fr.to F (kv' := [(3, .pointer (some ⟨g1, 0, none⟩))]) ⟨rfl, trivial⟩
      refine Sx.step_on rfl (Sx.d_load (i := 8) (xs := [.int .u64 ((Wd.hi da).toNat), .int .u64 ((Wd.lo da).toNat)]) rw_24 F H rfl rfl rfl rfl rfl) ?_
      rintro xv w' ⟨hx, rfl⟩
      exact ⟨(fun cv hc => hx.trans (Option.some.inj (Option.some.inj hc))), ⟨g10, (fun h => (Sx.put_ne rfl _).trans (p10 h)), (by show Sx.Own _ _ _ _; rw [show Inv.add L 0 11 = false from f11]; exact H)⟩⟩
    · show Sx.StepAt _ _ _ _ _ _ _ 1
      intro L A w up hun hd F ⟨g10, p10, H⟩
      have f11 : L 11 = false := up 11 1 rfl hun
      rw [f11] at H
      have F := Sx.Fr.to F (kv' := [(4, .pointer (some ⟨g2, 0, none⟩))]) ⟨rfl, trivial⟩
      refine Sx.step_on rfl (Sx.d_load (i := 7) (xs := [.int .u64 ((Wd.hi db).toNat), .int .u64 ((Wd.lo db).toNat)]) rw_24 F H rfl rfl rfl rfl rfl) ?_
      rintro xv w' ⟨hx, rfl⟩
      exact ⟨(fun cv hc => hx.trans (Option.some.inj (Option.some.inj hc))), ⟨g10, (fun h => (Sx.put_ne rfl _).trans (p10 h)), (by show Sx.Own _ _ _ _; rw [show Inv.add L 1 11 = false from f11]; exact H)⟩⟩
    · show Sx.StepAt _ _ _ _ _ _ _ 2
      intro L A w up hun hd F ⟨g10, p10, H⟩
      have f11 : L 11 = false := up 11 2 rfl hun
      rw [f11] at H
      have F := Sx.Fr.to F (kv' := [(62, .agg #[.int .u64 ((Wd.hi da).toNat), .int .u64 ((Wd.lo da).toNat)]), (63, .agg #[.int .u64 ((Wd.hi db).toNat), .int .u64 ((Wd.lo db).toNat)])]) ⟨rfl, rfl, trivial⟩
      refine Sx.step_on rfl (Sx.d_call (vs := [.agg #[.int .u64 ((Wd.hi da).toNat), .int .u64 ((Wd.lo da).toNat)], .agg #[.int .u64 ((Wd.hi db).toNat), .int .u64 ((Wd.lo db).toNat)]]) (v := .agg #[.int .u64 ((Wd.hi (da * db)).toNat), .int .u64 ((Wd.lo (da * db)).toNat)]) if_13 F H rfl rfl (wmul_c da db _)) ?_
      rintro xv w' ⟨hx, H⟩
      exact ⟨(fun cv hc => hx.trans (Option.some.inj (Option.some.inj hc))), ⟨g10, (fun h => (Sx.put_ne rfl _).trans (p10 h)), (by show Sx.Own _ _ _ _; rw [show Inv.add L 2 11 = false from f11]; exact H)⟩⟩
    · show Sx.StepAt _ _ _ _ _ _ _ 3
      intro L A w up hun hd F ⟨g10, p10, H⟩
      have f11 : L 11 = false := up 11 3 rfl hun
      rw [f11] at H
      have F := Sx.Fr.to F (kv' := [(3, .pointer (some ⟨g1, 0, none⟩))]) ⟨rfl, trivial⟩
      refine Sx.step_on rfl (Sx.d_load (i := 8) (xs := [.int .u64 ((Wd.hi da).toNat), .int .u64 ((Wd.lo da).toNat)]) rw_24 F H rfl rfl rfl rfl rfl) ?_
      rintro xv w' ⟨hx, rfl⟩
      exact ⟨(fun cv hc => hx.trans (Option.some.inj (Option.some.inj hc))), ⟨g10, (fun h => (Sx.put_ne rfl _).trans (p10 h)), (by show Sx.Own _ _ _ _; rw [show Inv.add L 3 11 = false from f11]; exact H)⟩⟩
    · show Sx.StepAt _ _ _ _ _ _ _ 4
      intro L A w up hun hd F ⟨g10, p10, H⟩
      have f11 : L 11 = false := up 11 4 rfl hun
      rw [f11] at H
      have F := Sx.Fr.to F (kv' := [(5, .pointer (some ⟨g3, 0, none⟩))]) ⟨rfl, trivial⟩
      refine Sx.step_on rfl (Sx.d_load (i := 6) (xs := [.int .u64 ((Wd.hi dc).toNat), .int .u64 ((Wd.lo dc).toNat)]) rw_24 F H rfl rfl rfl rfl rfl) ?_
      rintro xv w' ⟨hx, rfl⟩
      exact ⟨(fun cv hc => hx.trans (Option.some.inj (Option.some.inj hc))), ⟨g10, (fun h => (Sx.put_ne rfl _).trans (p10 h)), (by show Sx.Own _ _ _ _; rw [show Inv.add L 4 11 = false from f11]; exact H)⟩⟩
    · show Sx.StepAt _ _ _ _ _ _ _ 5
      intro L A w up hun hd F ⟨g10, p10, H⟩
      have f11 : L 11 = false := up 11 5 rfl hun
      rw [f11] at H
      have F := Sx.Fr.to F (kv' := [(65, .agg #[.int .u64 ((Wd.hi da).toNat), .int .u64 ((Wd.lo da).toNat)]), (66, .agg #[.int .u64 ((Wd.hi dc).toNat), .int .u64 ((Wd.lo dc).toNat)])]) ⟨rfl, rfl, trivial⟩
      refine Sx.step_on rfl (Sx.d_call (vs := [.agg #[.int .u64 ((Wd.hi da).toNat), .int .u64 ((Wd.lo da).toNat)], .agg #[.int .u64 ((Wd.hi dc).toNat), .int .u64 ((Wd.lo dc).toNat)]]) (v := .agg #[.int .u64 ((Wd.hi (da * dc)).toNat), .int .u64 ((Wd.lo (da * dc)).toNat)]) if_13 F H rfl rfl (wmul_c da dc _)) ?_
      rintro xv w' ⟨hx, H⟩
      exact ⟨(fun cv hc => hx.trans (Option.some.inj (Option.some.inj hc))), ⟨g10, (fun h => (Sx.put_ne rfl _).trans (p10 h)), (by show Sx.Own _ _ _ _; rw [show Inv.add L 5 11 = false from f11]; exact H)⟩⟩
    · show Sx.StepAt _ _ _ _ _ _ _ 6
      intro L A w up hun hd F ⟨g10, p10, H⟩
      have f11 : L 11 = false := up 11 6 rfl hun
      rw [f11] at H
      have F := Sx.Fr.to F (kv' := [(64, .agg #[.int .u64 ((Wd.hi (da * db)).toNat), .int .u64 ((Wd.lo (da * db)).toNat)]), (67, .agg #[.int .u64 ((Wd.hi (da * dc)).toNat), .int .u64 ((Wd.lo (da * dc)).toNat)])]) ⟨rfl, rfl, trivial⟩
      refine Sx.step_on rfl (Sx.d_call (vs := [.agg #[.int .u64 ((Wd.hi (da * db)).toNat), .int .u64 ((Wd.lo (da * db)).toNat)], .agg #[.int .u64 ((Wd.hi (da * dc)).toNat), .int .u64 ((Wd.lo (da * dc)).toNat)]]) (v := .tuple #[.agg #[.int .u64 ((Wd.hi ((da * db) + (da * dc))).toNat), .int .u64 ((Wd.lo ((da * db) + (da * dc))).toNat)], .bool (Wd.over (da * db) (da * dc))]) if_11 F H rfl rfl (wadd_c (da * db) (da * dc) _)) ?_
      rintro xv w' ⟨hx, H⟩
      exact ⟨(fun cv hc => hx.trans (Option.some.inj (Option.some.inj hc))), ⟨g10, (fun h => (Sx.put_ne rfl _).trans (p10 h)), (by show Sx.Own _ _ _ _; rw [show Inv.add L 6 11 = false from f11]; exact H)⟩⟩
    · show Sx.StepAt _ _ _ _ _ _ _ 7
      intro L A w up hun hd F ⟨g10, p10, H⟩
      have f11 : L 11 = false := up 11 7 rfl hun
      rw [f11] at H
      have F := Sx.Fr.to F (kv' := [(68, .tuple #[.agg #[.int .u64 ((Wd.hi ((da * db) + (da * dc))).toNat), .int .u64 ((Wd.lo ((da * db) + (da * dc))).toNat)], .bool (Wd.over (da * db) (da * dc))])]) ⟨rfl, trivial⟩
      refine Sx.step_on rfl (Sx.d_move F (Or.inl rfl) rfl) ?_
      rintro xv w' ⟨hx, rfl⟩
      exact ⟨(fun cv hc => hx.trans (Option.some.inj (Option.some.inj hc))), ⟨g10, (fun h => (Sx.put_ne rfl _).trans (p10 h)), (by show Sx.Own _ _ _ _; rw [show Inv.add L 7 11 = false from f11]; exact H)⟩⟩
    · show Sx.StepAt _ _ _ _ _ _ _ 8
      intro L A w up hun hd F ⟨g10, p10, H⟩
      have f11 : L 11 = false := up 11 8 rfl hun
      rw [f11] at H
      have F := Sx.Fr.to F (kv' := [(61, .tuple #[.agg #[.int .u64 ((Wd.hi ((da * db) + (da * dc))).toNat), .int .u64 ((Wd.lo ((da * db) + (da * dc))).toNat)], .bool (Wd.over (da * db) (da * dc))])]) ⟨rfl, trivial⟩
      refine Sx.step_on rfl (Sx.d_extract (v := .agg #[.int .u64 ((Wd.hi ((da * db) + (da * dc))).toNat), .int .u64 ((Wd.lo ((da * db) + (da * dc))).toNat)]) F rfl rfl rfl) ?_
      rintro xv w' ⟨hx, rfl⟩
      exact ⟨(fun cv hc => hx.trans (Option.some.inj (Option.some.inj hc))), ⟨g10, (fun h => (Sx.put_ne rfl _).trans (p10 h)), (by show Sx.Own _ _ _ _; rw [show Inv.add L 8 11 = false from f11]; exact H)⟩⟩
    · show Sx.StepAt _ _ _ _ _ _ _ 9
      intro L A w up hun hd F ⟨g10, p10, H⟩
      have F := Sx.Fr.to F (kv' := [(61, .tuple #[.agg #[.int .u64 ((Wd.hi ((da * db) + (da * dc))).toNat), .int .u64 ((Wd.lo ((da * db) + (da * dc))).toNat)], .bool (Wd.over (da * db) (da * dc))])]) ⟨rfl, trivial⟩
      refine Sx.step_on rfl (Sx.d_extract (v := .bool (Wd.over (da * db) (da * dc))) F rfl rfl rfl) ?_
      rintro xv w' ⟨hx, rfl⟩
      exact ⟨(fun cv hc => hx.trans (Option.some.inj (Option.some.inj hc))), ⟨g10, (fun h => (Sx.put_ne rfl _).trans (p10 h)), H⟩⟩
    · show Sx.StepAt _ _ _ _ _ _ _ 10
      intro L A w up hun hd F ⟨g10, p10, H⟩
      have f10 : L 10 = false := hun
      have f11 : L 11 = false := up 11 10 rfl hun
      rw [f10, f11] at H
      have F := Sx.Fr.to F (kv' := []) trivial
      refine Sx.step_on rfl (Sx.d_alloc_at H rfl 9 [.int .u64 ((Wd.hi 0#128).toNat), .int .u64 ((Wd.lo 0#128).toNat)] zero_24) ?_
      rintro xv w' ⟨g', hx, H⟩
      exact ⟨(fun cv hc => by have h := Option.some.inj hc; cases h), ⟨g', (fun _ => (Sx.put_same F (by decide) _).trans hx), (by show Sx.Own _ _ _ _; rw [show Inv.add L 10 11 = false from f11]; exact H)⟩⟩
    · show Sx.StepAt _ _ _ _ _ _ _ 11
      intro L A w up hun hd F ⟨g10, p10, H⟩
      have t10 : L 10 = true := hd 10 rfl
      have f11 : L 11 = false := hun
      rw [t10, f11] at H
      have F := Sx.Fr.to F (kv' := [(69, .agg #[.int .u64 ((Wd.hi ((da * db) + (da * dc))).toNat), .int .u64 ((Wd.lo ((da * db) + (da * dc))).toNat)])]) ⟨rfl, trivial⟩
      have F := Sx.Fr.add F (p10 t10)
      refine Sx.step_on rfl (Sx.d_store (i := 9) (xs := [.int .u64 ((Wd.hi ((da * db) + (da * dc))).toNat), .int .u64 ((Wd.lo ((da * db) + (da * dc))).toNat)]) (us := [.int .u64 ((Wd.hi ((da * db) + (da * dc))).toNat), .int .u64 ((Wd.lo ((da * db) + (da * dc))).toNat)]) sz_24 F H rfl rfl rfl rfl rfl rfl rfl (Nat.le_of_ble_eq_true rfl) rfl) ?_
      intro xv w' H
      exact ⟨(fun cv hc => by have h := Option.some.inj hc; cases h), ⟨g10, p10, (by show Sx.Own _ _ _ _; rw [show Inv.add L 11 10 = true from t10]; exact H)⟩⟩
    · show Sx.StepAt _ _ _ _ _ _ _ 12
      intro L A w up hun hd F ⟨g10, p10, H⟩
      have t10 : L 10 = true := hd 10 rfl
      have t11 : L 11 = true := hd 11 rfl
      rw [t10, t11] at H
      have F := Sx.Fr.to F (kv' := [(70, .bool (Wd.over (da * db) (da * dc)))]) ⟨rfl, trivial⟩
      have F := Sx.Fr.add F (p10 t10)
      refine Sx.step_on rfl (Sx.d_move F (Or.inr rfl) rfl) ?_
      rintro xv w' ⟨hx, rfl⟩
      exact ⟨(fun cv hc => hx.trans (Option.some.inj (Option.some.inj hc))), ⟨g10, (fun h => (Sx.put_ne rfl _).trans (p10 h)), (by show Sx.Own _ _ _ _; rw [show Inv.add L 12 10 = true from t10, show Inv.add L 12 11 = true from t11]; exact H)⟩⟩
  · intro L A w hL F ⟨g10, p10, H⟩
    have t10 : L 10 = true := hL 10 rfl
    have t11 : L 11 = true := hL 11 rfl
    rw [t10, t11] at H
    have F := Sx.Fr.add F (p10 t10)
    have F := Sx.Fr.to F (kv' := [(3, .pointer (some ⟨g1, 0, none⟩)), (4, .pointer (some ⟨g2, 0, none⟩)), (5, .pointer (some ⟨g3, 0, none⟩)), (6, .bool false), (7, .pointer (some ⟨g4, 0, none⟩)), (9, .pointer (some ⟨g5, 0, none⟩)), (11, .pointer (some ⟨g6, 0, none⟩)), (13, .pointer (some ⟨g7, 0, none⟩)), (15, .pointer (some ⟨g8, 0, none⟩)), (17, .pointer (some ⟨g9, 0, none⟩)), (19, .pointer (some ⟨g10, 0, none⟩))]) ⟨rfl, rfl, rfl, rfl, rfl, rfl, rfl, rfl, rfl, rfl, rfl, trivial⟩
    refine hK10 _ _ ?_
    refine Sx.seq (fun K11 hK11 => ?_)
    refine Sx.plain ?_
    refine Sx.sv F (Sx.d_load (i := 8) (xs := [.int .u64 ((Wd.hi da).toNat), .int .u64 ((Wd.lo da).toNat)]) rw_24 F H rfl rfl rfl rfl rfl) (Sx.wanted_none rfl _) rfl (by decide) (fun A F => ?_)
    refine Sx.sv F (Sx.d_load (i := 8) (xs := [.int .u64 ((Wd.hi da).toNat), .int .u64 ((Wd.lo da).toNat)]) rw_24 F H rfl rfl rfl rfl rfl) (Sx.wanted_none rfl _) rfl (by decide) (fun A F => ?_)
    refine Sx.sw F (Sx.d_call (vs := [.agg #[.int .u64 ((Wd.hi da).toNat), .int .u64 ((Wd.lo da).toNat)], .agg #[.int .u64 ((Wd.hi da).toNat), .int .u64 ((Wd.lo da).toNat)]]) (v := .tuple #[.agg #[.int .u64 ((Wd.hi (da - da)).toNat), .int .u64 ((Wd.lo (da - da)).toNat)], .bool false]) if_12 F H rfl rfl (Calls.val (wsub_c da da _) rfl (by rw [show Wd.less da da = false from decide_eq_false (Nat.lt_irrefl _)]))) (Sx.wanted_none rfl _) rfl (by decide) (fun A w F H => ?_)
    refine Sx.sv F (Sx.d_move F (Or.inl rfl) rfl) (Sx.wanted_none rfl _) rfl (by decide) (fun A F => ?_)
    refine Sx.sv F (Sx.d_extract (v := .agg #[.int .u64 ((Wd.hi (da - da)).toNat), .int .u64 ((Wd.lo (da - da)).toNat)]) F rfl rfl rfl) (Sx.wanted_none rfl _) rfl (by decide) (fun A F => ?_)
    refine Sx.sv F (Sx.d_extract (v := .bool false) F rfl rfl rfl) (Sx.wanted_none rfl _) rfl (by decide) (fun A F => ?_)
    refine Sx.sb F (Sx.d_alloc H rfl [.int .u64 ((Wd.hi 0#128).toNat), .int .u64 ((Wd.lo 0#128).toNat)] zero_24) (Sx.wanted_none rfl _) rfl (by decide) (fun g11 A w F H => ?_)
    refine Sx.ss F (Sx.d_store (i := 0) (xs := [.int .u64 ((Wd.hi (da - da)).toNat), .int .u64 ((Wd.lo (da - da)).toNat)]) (us := [.int .u64 ((Wd.hi (da - da)).toNat), .int .u64 ((Wd.lo (da - da)).toNat)]) sz_24 F H rfl rfl rfl rfl rfl rfl rfl (Nat.le_of_ble_eq_true rfl) rfl) (Sx.wanted_none rfl _) rfl (fun A w F (H : Sx.Own w0 _ [(true, g11, [.int .u64 ((Wd.hi (da - da)).toNat), .int .u64 ((Wd.lo (da - da)).toNat)]), (true, g9, [.int .u64 ((Wd.hi ((da + db) - db)).toNat), .int .u64 ((Wd.lo ((da + db) - db)).toNat)]), (true, g8, [.int .u64 ((Wd.hi (da + (db + dc))).toNat), .int .u64 ((Wd.lo (da + (db + dc))).toNat)]), (true, g7, [.int .u64 ((Wd.hi ((da + db) + dc)).toNat), .int .u64 ((Wd.lo ((da + db) + dc)).toNat)]), (true, g6, [.int .u64 ((Wd.hi (db + dc)).toNat), .int .u64 ((Wd.lo (db + dc)).toNat)]), (true, g5, [.int .u64 ((Wd.hi (db + da)).toNat), .int .u64 ((Wd.lo (db + da)).toNat)]), (true, g4, [.int .u64 ((Wd.hi (da + db)).toNat), .int .u64 ((Wd.lo (da + db)).toNat)]), (true, g3, [.int .u64 ((Wd.hi dc).toNat), .int .u64 ((Wd.lo dc).toNat)]), (true, g2, [.int .u64 ((Wd.hi db).toNat), .int .u64 ((Wd.lo db).toNat)]), (true, g1, [.int .u64 ((Wd.hi da).toNat), .int .u64 ((Wd.lo da).toNat)]), (true, g10, [.int .u64 ((Wd.hi ((da * db) + (da * dc))).toNat), .int .u64 ((Wd.lo ((da * db) + (da * dc))).toNat)])] []) => ?_)
    refine Sx.sv F (Sx.d_move F (Or.inr rfl) rfl) (Sx.wanted_none rfl _) rfl (by decide) (fun A F => ?_)
    refine Sx.nil ?_
    refine hK11 _ _ ?_
    refine Sx.seq (fun K12 hK12 => ?_)
    have F := Sx.Fr.to F (kv' := [(3, .pointer (some ⟨g1, 0, none⟩)), (4, .pointer (some ⟨g2, 0, none⟩)), (5, .pointer (some ⟨g3, 0, none⟩)), (7, .pointer (some ⟨g4, 0, none⟩)), (9, .pointer (some ⟨g5, 0, none⟩)), (11, .pointer (some ⟨g6, 0, none⟩)), (13, .pointer (some ⟨g7, 0, none⟩)), (15, .pointer (some ⟨g8, 0, none⟩)), (17, .pointer (some ⟨g9, 0, none⟩)), (19, .pointer (some ⟨g10, 0, none⟩)), (72, .agg #[.int .u64 ((Wd.hi da).toNat), .int .u64 ((Wd.lo da).toNat)]), (73, .agg #[.int .u64 ((Wd.hi da).toNat), .int .u64 ((Wd.lo da).toNat)]), (74, .tuple #[.agg #[.int .u64 ((Wd.hi (da - da)).toNat), .int .u64 ((Wd.lo (da - da)).toNat)], .bool false]), (71, .tuple #[.agg #[.int .u64 ((Wd.hi (da - da)).toNat), .int .u64 ((Wd.lo (da - da)).toNat)], .bool false]), (75, .agg #[.int .u64 ((Wd.hi (da - da)).toNat), .int .u64 ((Wd.lo (da - da)).toNat)]), (76, .bool false), (21, .pointer (some ⟨g11, 0, none⟩)), (22, .bool false)]) ⟨rfl, rfl, rfl, rfl, rfl, rfl, rfl, rfl, rfl, rfl, rfl, rfl, rfl, rfl, rfl, rfl, rfl, rfl, trivial⟩
    refine Sx.drawn F (by kernel_rfl) (by kernel_rfl) (by kernel_rfl) [some (.agg #[.int .u64 ((Wd.hi (da + db)).toNat), .int .u64 ((Wd.lo (da + db)).toNat)]), some (.agg #[.int .u64 ((Wd.hi (db + da)).toNat), .int .u64 ((Wd.lo (db + da)).toNat)]), some (.bool true), some (.bool true), some (.agg #[.int .u64 ((Wd.hi ((da + db) + dc)).toNat), .int .u64 ((Wd.lo ((da + db) + dc)).toNat)]), some (.agg #[.int .u64 ((Wd.hi (da + (db + dc))).toNat), .int .u64 ((Wd.lo (da + (db + dc))).toNat)]), some (.bool true), some (.bool true), some (.bool true), some (.agg #[.int .u64 ((Wd.hi ((da + db) - db)).toNat), .int .u64 ((Wd.lo ((da + db) - db)).toNat)]), some (.agg #[.int .u64 ((Wd.hi da).toNat), .int .u64 ((Wd.lo da).toNat)]), some (.bool true), some (.bool true), some (.bool true), some (.agg #[.int .u64 ((Wd.hi ((da * db) + (da * dc))).toNat), .int .u64 ((Wd.lo ((da * db) + (da * dc))).toNat)]), some (.agg #[.int .u64 ((Wd.hi da).toNat), .int .u64 ((Wd.lo da).toNat)]), some (.agg #[.int .u64 ((Wd.hi (db + dc)).toNat), .int .u64 ((Wd.lo (db + dc)).toNat)]), some (.agg #[.int .u64 ((Wd.hi (da * (db + dc))).toNat), .int .u64 ((Wd.lo (da * (db + dc))).toNat)]), some (.bool true), some (.bool true), some (.bool true), some (.agg #[.int .u64 ((Wd.hi da).toNat), .int .u64 ((Wd.lo da).toNat)]), some (.agg #[.int .u64 ((Wd.hi db).toNat), .int .u64 ((Wd.lo db).toNat)]), some (.agg #[.int .u64 ((Wd.hi (da * db)).toNat), .int .u64 ((Wd.lo (da * db)).toNat)]), some (.agg #[.int .u64 ((Wd.hi db).toNat), .int .u64 ((Wd.lo db).toNat)]), some (.agg #[.int .u64 ((Wd.hi da).toNat), .int .u64 ((Wd.lo da).toNat)]), some (.agg #[.int .u64 ((Wd.hi (db * da)).toNat), .int .u64 ((Wd.lo (db * da)).toNat)]), some (.bool true), some (.bool true), some (.bool true), some (.agg #[.int .u64 ((Wd.hi da).toNat), .int .u64 ((Wd.lo da).toNat)]), some (.agg #[.int .u64 ((Wd.hi db).toNat), .int .u64 ((Wd.lo db).toNat)]), some (.agg #[.int .u64 ((Wd.hi (da * db)).toNat), .int .u64 ((Wd.lo (da * db)).toNat)]), some (.agg #[.int .u64 ((Wd.hi dc).toNat), .int .u64 ((Wd.lo dc).toNat)]), some (.agg #[.int .u64 ((Wd.hi ((da * db) * dc)).toNat), .int .u64 ((Wd.lo ((da * db) * dc)).toNat)]), some (.agg #[.int .u64 ((Wd.hi da).toNat), .int .u64 ((Wd.lo da).toNat)]), some (.agg #[.int .u64 ((Wd.hi db).toNat), .int .u64 ((Wd.lo db).toNat)]), some (.agg #[.int .u64 ((Wd.hi dc).toNat), .int .u64 ((Wd.lo dc).toNat)]), some (.agg #[.int .u64 ((Wd.hi (db * dc)).toNat), .int .u64 ((Wd.lo (db * dc)).toNat)]), some (.agg #[.int .u64 ((Wd.hi (da * (db * dc))).toNat), .int .u64 ((Wd.lo (da * (db * dc))).toNat)]), some (.bool true), some (.bool true), some (.bool true), some (.agg #[.int .u64 ((Wd.hi da).toNat), .int .u64 ((Wd.lo da).toNat)]), some (.agg #[.int .u64 ((Wd.hi 1#128).toNat), .int .u64 ((Wd.lo 1#128).toNat)]), some (.agg #[.int .u64 ((Wd.hi (da * 1#128)).toNat), .int .u64 ((Wd.lo (da * 1#128)).toNat)]), some (.agg #[.int .u64 ((Wd.hi da).toNat), .int .u64 ((Wd.lo da).toNat)]), some (.bool true), some (.bool true), some (.bool true), some (.agg #[.int .u64 ((Wd.hi da).toNat), .int .u64 ((Wd.lo da).toNat)]), some (.agg #[.int .u64 ((Wd.hi 0#128).toNat), .int .u64 ((Wd.lo 0#128).toNat)]), some (.agg #[.int .u64 ((Wd.hi (da * 0#128)).toNat), .int .u64 ((Wd.lo (da * 0#128)).toNat)]), some (.agg #[.int .u64 ((Wd.hi 0#128).toNat), .int .u64 ((Wd.lo 0#128).toNat)]), some (.bool true), some (.bool true), some (.bool true), some (.agg #[.int .u64 ((Wd.hi (da - da)).toNat), .int .u64 ((Wd.lo (da - da)).toNat)]), some (.agg #[.int .u64 ((Wd.hi 0#128).toNat), .int .u64 ((Wd.lo 0#128).toNat)]), some (.bool true), some (.bool true), some (.bool true), some (.bool false), some (.bool true), some (.bool true), some (.bool true)] (fun L A w => Sx.Own w0 w [(true, g11, [.int .u64 ((Wd.hi (da - da)).toNat), .int .u64 ((Wd.lo (da - da)).toNat)]), (true, g9, [.int .u64 ((Wd.hi ((da + db) - db)).toNat), .int .u64 ((Wd.lo ((da + db) - db)).toNat)]), (true, g8, [.int .u64 ((Wd.hi (da + (db + dc))).toNat), .int .u64 ((Wd.lo (da + (db + dc))).toNat)]), (true, g7, [.int .u64 ((Wd.hi ((da + db) + dc)).toNat), .int .u64 ((Wd.lo ((da + db) + dc)).toNat)]), (true, g6, [.int .u64 ((Wd.hi (db + dc)).toNat), .int .u64 ((Wd.lo (db + dc)).toNat)]), (true, g5, [.int .u64 ((Wd.hi (db + da)).toNat), .int .u64 ((Wd.lo (db + da)).toNat)]), (true, g4, [.int .u64 ((Wd.hi (da + db)).toNat), .int .u64 ((Wd.lo (da + db)).toNat)]), (true, g3, [.int .u64 ((Wd.hi dc).toNat), .int .u64 ((Wd.lo dc).toNat)]), (true, g2, [.int .u64 ((Wd.hi db).toNat), .int .u64 ((Wd.lo db).toNat)]), (true, g1, [.int .u64 ((Wd.hi da).toNat), .int .u64 ((Wd.lo da).toNat)]), (true, g10, [.int .u64 ((Wd.hi ((da * db) + (da * dc))).toNat), .int .u64 ((Wd.lo ((da * db) + (da * dc))).toNat)])] []) H.drew ?_ ?_
    · refine ⟨?_, ?_, ?_, ?_, ?_, ?_, ?_, ?_, ?_, ?_, ?_, ?_, ?_, ?_, ?_, ?_, ?_, ?_, ?_, ?_, ?_, ?_, ?_, ?_, ?_, ?_, ?_, ?_, ?_, ?_, ?_, ?_, ?_, ?_, ?_, ?_, ?_, ?_, ?_, ?_, ?_, ?_, ?_, ?_, ?_, ?_, ?_, ?_, ?_, ?_, ?_, ?_, ?_, ?_, ?_, ?_, ?_, ?_, ?_, ?_, ?_, ?_, ?_, ?_, ?_, ?_, trivial⟩
      · show Sx.StepAt _ _ _ _ _ _ _ 0
        intro L A w up hun hd F H
        have F := Sx.Fr.to F (kv' := [(7, .pointer (some ⟨g4, 0, none⟩))]) ⟨rfl, trivial⟩
        refine Sx.step_on rfl (Sx.d_load (i := 6) (xs := [.int .u64 ((Wd.hi (da + db)).toNat), .int .u64 ((Wd.lo (da + db)).toNat)]) rw_24 F H rfl rfl rfl rfl rfl) ?_
        rintro xv w' ⟨hx, rfl⟩
        exact ⟨(fun cv hc => hx.trans (Option.some.inj (Option.some.inj hc))), H⟩
      · show Sx.StepAt _ _ _ _ _ _ _ 1
        intro L A w up hun hd F H
        have F := Sx.Fr.to F (kv' := [(9, .pointer (some ⟨g5, 0, none⟩))]) ⟨rfl, trivial⟩
        refine Sx.step_on rfl (Sx.d_load (i := 5) (xs := [.int .u64 ((Wd.hi (db + da)).toNat), .int .u64 ((Wd.lo (db + da)).toNat)]) rw_24 F H rfl rfl rfl rfl rfl) ?_
        rintro xv w' ⟨hx, rfl⟩
        exact ⟨(fun cv hc => hx.trans (Option.some.inj (Option.some.inj hc))), H⟩
      · show Sx.StepAt _ _ _ _ _ _ _ 2
        intro L A w up hun hd F H
        have F := Sx.Fr.to F (kv' := [(77, .agg #[.int .u64 ((Wd.hi (da + db)).toNat), .int .u64 ((Wd.lo (da + db)).toNat)]), (78, .agg #[.int .u64 ((Wd.hi (db + da)).toNat), .int .u64 ((Wd.lo (db + da)).toNat)])]) ⟨rfl, rfl, trivial⟩
        refine Sx.step_on rfl (Sx.d_bin (v := .bool true) F rfl rfl rfl (Sx.i_eqV (decide_eq_true (BitVec.add_comm _ _)))) ?_
        rintro xv w' ⟨hx, rfl⟩
        exact ⟨(fun cv hc => hx.trans (Option.some.inj (Option.some.inj hc))), H⟩
      · show Sx.StepAt _ _ _ _ _ _ _ 3
        intro L A w up hun hd F H
        have F := Sx.Fr.to F (kv' := [(79, .bool true)]) ⟨rfl, trivial⟩
        refine Sx.step_on rfl (Sx.d_move F (Or.inl rfl) rfl) ?_
        rintro xv w' ⟨hx, rfl⟩
        exact ⟨(fun cv hc => hx.trans (Option.some.inj (Option.some.inj hc))), H⟩
      · show Sx.StepAt _ _ _ _ _ _ _ 4
        intro L A w up hun hd F H
        have F := Sx.Fr.to F (kv' := [(13, .pointer (some ⟨g7, 0, none⟩)), (80, .bool true)]) ⟨rfl, rfl, trivial⟩
        refine Sx.step_ong rfl (Sx.guard_known (d := 80) (b := true) F rfl rfl) rfl (Sx.d_load (i := 3) (xs := [.int .u64 ((Wd.hi ((da + db) + dc)).toNat), .int .u64 ((Wd.lo ((da + db) + dc)).toNat)]) rw_24 F H rfl rfl rfl rfl rfl) ?_
        rintro xv w' ⟨hx, rfl⟩
        exact ⟨(fun cv hc => hx.trans (Option.some.inj (Option.some.inj hc))), H⟩
      · show Sx.StepAt _ _ _ _ _ _ _ 5
        intro L A w up hun hd F H
        have F := Sx.Fr.to F (kv' := [(15, .pointer (some ⟨g8, 0, none⟩)), (80, .bool true)]) ⟨rfl, rfl, trivial⟩
        refine Sx.step_ong rfl (Sx.guard_known (d := 80) (b := true) F rfl rfl) rfl (Sx.d_load (i := 2) (xs := [.int .u64 ((Wd.hi (da + (db + dc))).toNat), .int .u64 ((Wd.lo (da + (db + dc))).toNat)]) rw_24 F H rfl rfl rfl rfl rfl) ?_
        rintro xv w' ⟨hx, rfl⟩
        exact ⟨(fun cv hc => hx.trans (Option.some.inj (Option.some.inj hc))), H⟩
      · show Sx.StepAt _ _ _ _ _ _ _ 6
        intro L A w up hun hd F H
        have F := Sx.Fr.to F (kv' := [(81, .agg #[.int .u64 ((Wd.hi ((da + db) + dc)).toNat), .int .u64 ((Wd.lo ((da + db) + dc)).toNat)]), (82, .agg #[.int .u64 ((Wd.hi (da + (db + dc))).toNat), .int .u64 ((Wd.lo (da + (db + dc))).toNat)]), (80, .bool true)]) ⟨rfl, rfl, rfl, trivial⟩
        refine Sx.step_ong rfl (Sx.guard_known (d := 80) (b := true) F rfl rfl) rfl (Sx.d_bin (v := .bool true) F rfl rfl rfl (Sx.i_eqV (decide_eq_true (BitVec.add_assoc _ _ _)))) ?_
        rintro xv w' ⟨hx, rfl⟩
        exact ⟨(fun cv hc => hx.trans (Option.some.inj (Option.some.inj hc))), H⟩
      · show Sx.StepAt _ _ _ _ _ _ _ 7
        intro L A w up hun hd F H
        have F := Sx.Fr.to F (kv' := [(80, .bool true), (83, .bool true)]) ⟨rfl, rfl, trivial⟩
        refine Sx.step_on rfl (Sx.d_pickT (v := .bool true) F rfl rfl rfl) ?_
        rintro xv w' ⟨hx, rfl⟩
        exact ⟨(fun cv hc => hx.trans (Option.some.inj (Option.some.inj hc))), H⟩
      · show Sx.StepAt _ _ _ _ _ _ _ 8
        intro L A w up hun hd F H
        have F := Sx.Fr.to F (kv' := [(84, .bool true)]) ⟨rfl, trivial⟩
        refine Sx.step_on rfl (Sx.d_move F (Or.inl rfl) rfl) ?_
        rintro xv w' ⟨hx, rfl⟩
        exact ⟨(fun cv hc => hx.trans (Option.some.inj (Option.some.inj hc))), H⟩
      · show Sx.StepAt _ _ _ _ _ _ _ 9
        intro L A w up hun hd F H
        have F := Sx.Fr.to F (kv' := [(17, .pointer (some ⟨g9, 0, none⟩)), (85, .bool true)]) ⟨rfl, rfl, trivial⟩
        refine Sx.step_ong rfl (Sx.guard_known (d := 85) (b := true) F rfl rfl) rfl (Sx.d_load (i := 1) (xs := [.int .u64 ((Wd.hi ((da + db) - db)).toNat), .int .u64 ((Wd.lo ((da + db) - db)).toNat)]) rw_24 F H rfl rfl rfl rfl rfl) ?_
        rintro xv w' ⟨hx, rfl⟩
        exact ⟨(fun cv hc => hx.trans (Option.some.inj (Option.some.inj hc))), H⟩
      · show Sx.StepAt _ _ _ _ _ _ _ 10
        intro L A w up hun hd F H
        have F := Sx.Fr.to F (kv' := [(3, .pointer (some ⟨g1, 0, none⟩)), (85, .bool true)]) ⟨rfl, rfl, trivial⟩
        refine Sx.step_ong rfl (Sx.guard_known (d := 85) (b := true) F rfl rfl) rfl (Sx.d_load (i := 9) (xs := [.int .u64 ((Wd.hi da).toNat), .int .u64 ((Wd.lo da).toNat)]) rw_24 F H rfl rfl rfl rfl rfl) ?_
        rintro xv w' ⟨hx, rfl⟩
        exact ⟨(fun cv hc => hx.trans (Option.some.inj (Option.some.inj hc))), H⟩
      · show Sx.StepAt _ _ _ _ _ _ _ 11
        intro L A w up hun hd F H
        have F := Sx.Fr.to F (kv' := [(86, .agg #[.int .u64 ((Wd.hi ((da + db) - db)).toNat), .int .u64 ((Wd.lo ((da + db) - db)).toNat)]), (87, .agg #[.int .u64 ((Wd.hi da).toNat), .int .u64 ((Wd.lo da).toNat)]), (85, .bool true)]) ⟨rfl, rfl, rfl, trivial⟩
        refine Sx.step_ong rfl (Sx.guard_known (d := 85) (b := true) F rfl rfl) rfl (Sx.d_bin (v := .bool true) F rfl rfl rfl (Sx.i_eqV (decide_eq_true (BitVec.add_sub_cancel _ _)))) ?_
        rintro xv w' ⟨hx, rfl⟩
        exact ⟨(fun cv hc => hx.trans (Option.some.inj (Option.some.inj hc))), H⟩
      · show Sx.StepAt _ _ _ _ _ _ _ 12
        intro L A w up hun hd F H
        have F := Sx.Fr.to F (kv' := [(85, .bool true), (88, .bool true)]) ⟨rfl, rfl, trivial⟩
        refine Sx.step_on rfl (Sx.d_pickT (v := .bool true) F rfl rfl rfl) ?_
        rintro xv w' ⟨hx, rfl⟩
        exact ⟨(fun cv hc => hx.trans (Option.some.inj (Option.some.inj hc))), H⟩
      · show Sx.StepAt _ _ _ _ _ _ _ 13
        intro L A w up hun hd F H
        have F := Sx.Fr.to F (kv' := [(89, .bool true)]) ⟨rfl, trivial⟩
        refine Sx.step_on rfl (Sx.d_move F (Or.inl rfl) rfl) ?_
        rintro xv w' ⟨hx, rfl⟩
        exact ⟨(fun cv hc => hx.trans (Option.some.inj (Option.some.inj hc))), H⟩
      · show Sx.StepAt _ _ _ _ _ _ _ 14
        intro L A w up hun hd F H
        have F := Sx.Fr.to F (kv' := [(19, .pointer (some ⟨g10, 0, none⟩)), (90, .bool true)]) ⟨rfl, rfl, trivial⟩
        refine Sx.step_ong rfl (Sx.guard_known (d := 90) (b := true) F rfl rfl) rfl (Sx.d_load (i := 10) (xs := [.int .u64 ((Wd.hi ((da * db) + (da * dc))).toNat), .int .u64 ((Wd.lo ((da * db) + (da * dc))).toNat)]) rw_24 F H rfl rfl rfl rfl rfl) ?_
        rintro xv w' ⟨hx, rfl⟩
        exact ⟨(fun cv hc => hx.trans (Option.some.inj (Option.some.inj hc))), H⟩
      · show Sx.StepAt _ _ _ _ _ _ _ 15
        intro L A w up hun hd F H
        have F := Sx.Fr.to F (kv' := [(3, .pointer (some ⟨g1, 0, none⟩)), (90, .bool true)]) ⟨rfl, rfl, trivial⟩
        refine Sx.step_ong rfl (Sx.guard_known (d := 90) (b := true) F rfl rfl) rfl (Sx.d_load (i := 9) (xs := [.int .u64 ((Wd.hi da).toNat), .int .u64 ((Wd.lo da).toNat)]) rw_24 F H rfl rfl rfl rfl rfl) ?_
        rintro xv w' ⟨hx, rfl⟩
        exact ⟨(fun cv hc => hx.trans (Option.some.inj (Option.some.inj hc))), H⟩
      · show Sx.StepAt _ _ _ _ _ _ _ 16
        intro L A w up hun hd F H
        have F := Sx.Fr.to F (kv' := [(11, .pointer (some ⟨g6, 0, none⟩)), (90, .bool true)]) ⟨rfl, rfl, trivial⟩
        refine Sx.step_ong rfl (Sx.guard_known (d := 90) (b := true) F rfl rfl) rfl (Sx.d_load (i := 4) (xs := [.int .u64 ((Wd.hi (db + dc)).toNat), .int .u64 ((Wd.lo (db + dc)).toNat)]) rw_24 F H rfl rfl rfl rfl rfl) ?_
        rintro xv w' ⟨hx, rfl⟩
        exact ⟨(fun cv hc => hx.trans (Option.some.inj (Option.some.inj hc))), H⟩
      · show Sx.StepAt _ _ _ _ _ _ _ 17
        intro L A w up hun hd F H
        have F := Sx.Fr.to F (kv' := [(92, .agg #[.int .u64 ((Wd.hi da).toNat), .int .u64 ((Wd.lo da).toNat)]), (93, .agg #[.int .u64 ((Wd.hi (db + dc)).toNat), .int .u64 ((Wd.lo (db + dc)).toNat)]), (90, .bool true)]) ⟨rfl, rfl, rfl, trivial⟩
        refine Sx.step_ong rfl (Sx.guard_known (d := 90) (b := true) F rfl rfl) rfl (Sx.d_call (vs := [.agg #[.int .u64 ((Wd.hi da).toNat), .int .u64 ((Wd.lo da).toNat)], .agg #[.int .u64 ((Wd.hi (db + dc)).toNat), .int .u64 ((Wd.lo (db + dc)).toNat)]]) (v := .agg #[.int .u64 ((Wd.hi (da * (db + dc))).toNat), .int .u64 ((Wd.lo (da * (db + dc))).toNat)]) if_13 F H rfl rfl (wmul_c da (db + dc) _)) ?_
        rintro xv w' ⟨hx, H⟩
        exact ⟨(fun cv hc => hx.trans (Option.some.inj (Option.some.inj hc))), H⟩
      · show Sx.StepAt _ _ _ _ _ _ _ 18
        intro L A w up hun hd F H
        have F := Sx.Fr.to F (kv' := [(91, .agg #[.int .u64 ((Wd.hi ((da * db) + (da * dc))).toNat), .int .u64 ((Wd.lo ((da * db) + (da * dc))).toNat)]), (94, .agg #[.int .u64 ((Wd.hi (da * (db + dc))).toNat), .int .u64 ((Wd.lo (da * (db + dc))).toNat)]), (90, .bool true)]) ⟨rfl, rfl, rfl, trivial⟩
        refine Sx.step_ong rfl (Sx.guard_known (d := 90) (b := true) F rfl rfl) rfl (Sx.d_bin (v := .bool true) F rfl rfl rfl (Sx.i_eqV (decide_eq_true (BitVec.mul_add.symm)))) ?_
        rintro xv w' ⟨hx, rfl⟩
        exact ⟨(fun cv hc => hx.trans (Option.some.inj (Option.some.inj hc))), H⟩
      · show Sx.StepAt _ _ _ _ _ _ _ 19
        intro L A w up hun hd F H
        have F := Sx.Fr.to F (kv' := [(90, .bool true), (95, .bool true)]) ⟨rfl, rfl, trivial⟩
        refine Sx.step_on rfl (Sx.d_pickT (v := .bool true) F rfl rfl rfl) ?_
        rintro xv w' ⟨hx, rfl⟩
        exact ⟨(fun cv hc => hx.trans (Option.some.inj (Option.some.inj hc))), H⟩
      · show Sx.StepAt _ _ _ _ _ _ _ 20
        intro L A w up hun hd F H
        have F := Sx.Fr.to F (kv' := [(96, .bool true)]) ⟨rfl, trivial⟩
        refine Sx.step_on rfl (Sx.d_move F (Or.inl rfl) rfl) ?_
        rintro xv w' ⟨hx, rfl⟩
        exact ⟨(fun cv hc => hx.trans (Option.some.inj (Option.some.inj hc))), H⟩
      · show Sx.StepAt _ _ _ _ _ _ _ 21
        intro L A w up hun hd F H
        have F := Sx.Fr.to F (kv' := [(3, .pointer (some ⟨g1, 0, none⟩)), (97, .bool true)]) ⟨rfl, rfl, trivial⟩
        refine Sx.step_ong rfl (Sx.guard_known (d := 97) (b := true) F rfl rfl) rfl (Sx.d_load (i := 9) (xs := [.int .u64 ((Wd.hi da).toNat), .int .u64 ((Wd.lo da).toNat)]) rw_24 F H rfl rfl rfl rfl rfl) ?_
        rintro xv w' ⟨hx, rfl⟩
        exact ⟨(fun cv hc => hx.trans (Option.some.inj (Option.some.inj hc))), H⟩
      · show Sx.StepAt _ _ _ _ _ _ _ 22
        intro L A w up hun hd F H
        have F := Sx.Fr.to F (kv' := [(4, .pointer (some ⟨g2, 0, none⟩)), (97, .bool true)]) ⟨rfl, rfl, trivial⟩
        refine Sx.step_ong rfl (Sx.guard_known (d := 97) (b := true) F rfl rfl) rfl (Sx.d_load (i := 8) (xs := [.int .u64 ((Wd.hi db).toNat), .int .u64 ((Wd.lo db).toNat)]) rw_24 F H rfl rfl rfl rfl rfl) ?_
        rintro xv w' ⟨hx, rfl⟩
        exact ⟨(fun cv hc => hx.trans (Option.some.inj (Option.some.inj hc))), H⟩
      · show Sx.StepAt _ _ _ _ _ _ _ 23
        intro L A w up hun hd F H
        have F := Sx.Fr.to F (kv' := [(98, .agg #[.int .u64 ((Wd.hi da).toNat), .int .u64 ((Wd.lo da).toNat)]), (99, .agg #[.int .u64 ((Wd.hi db).toNat), .int .u64 ((Wd.lo db).toNat)]), (97, .bool true)]) ⟨rfl, rfl, rfl, trivial⟩
        refine Sx.step_ong rfl (Sx.guard_known (d := 97) (b := true) F rfl rfl) rfl (Sx.d_call (vs := [.agg #[.int .u64 ((Wd.hi da).toNat), .int .u64 ((Wd.lo da).toNat)], .agg #[.int .u64 ((Wd.hi db).toNat), .int .u64 ((Wd.lo db).toNat)]]) (v := .agg #[.int .u64 ((Wd.hi (da * db)).toNat), .int .u64 ((Wd.lo (da * db)).toNat)]) if_13 F H rfl rfl (wmul_c da db _)) ?_
        rintro xv w' ⟨hx, H⟩
        exact ⟨(fun cv hc => hx.trans (Option.some.inj (Option.some.inj hc))), H⟩
      · show Sx.StepAt _ _ _ _ _ _ _ 24
        intro L A w up hun hd F H
        have F := Sx.Fr.to F (kv' := [(4, .pointer (some ⟨g2, 0, none⟩)), (97, .bool true)]) ⟨rfl, rfl, trivial⟩
        refine Sx.step_ong rfl (Sx.guard_known (d := 97) (b := true) F rfl rfl) rfl (Sx.d_load (i := 8) (xs := [.int .u64 ((Wd.hi db).toNat), .int .u64 ((Wd.lo db).toNat)]) rw_24 F H rfl rfl rfl rfl rfl) ?_
        rintro xv w' ⟨hx, rfl⟩
        exact ⟨(fun cv hc => hx.trans (Option.some.inj (Option.some.inj hc))), H⟩
      · show Sx.StepAt _ _ _ _ _ _ _ 25
        intro L A w up hun hd F H
        have F := Sx.Fr.to F (kv' := [(3, .pointer (some ⟨g1, 0, none⟩)), (97, .bool true)]) ⟨rfl, rfl, trivial⟩
        refine Sx.step_ong rfl (Sx.guard_known (d := 97) (b := true) F rfl rfl) rfl (Sx.d_load (i := 9) (xs := [.int .u64 ((Wd.hi da).toNat), .int .u64 ((Wd.lo da).toNat)]) rw_24 F H rfl rfl rfl rfl rfl) ?_
        rintro xv w' ⟨hx, rfl⟩
        exact ⟨(fun cv hc => hx.trans (Option.some.inj (Option.some.inj hc))), H⟩
      · show Sx.StepAt _ _ _ _ _ _ _ 26
        intro L A w up hun hd F H
        have F := Sx.Fr.to F (kv' := [(101, .agg #[.int .u64 ((Wd.hi db).toNat), .int .u64 ((Wd.lo db).toNat)]), (102, .agg #[.int .u64 ((Wd.hi da).toNat), .int .u64 ((Wd.lo da).toNat)]), (97, .bool true)]) ⟨rfl, rfl, rfl, trivial⟩
        refine Sx.step_ong rfl (Sx.guard_known (d := 97) (b := true) F rfl rfl) rfl (Sx.d_call (vs := [.agg #[.int .u64 ((Wd.hi db).toNat), .int .u64 ((Wd.lo db).toNat)], .agg #[.int .u64 ((Wd.hi da).toNat), .int .u64 ((Wd.lo da).toNat)]]) (v := .agg #[.int .u64 ((Wd.hi (db * da)).toNat), .int .u64 ((Wd.lo (db * da)).toNat)]) if_13 F H rfl rfl (wmul_c db da _)) ?_
        rintro xv w' ⟨hx, H⟩
        exact ⟨(fun cv hc => hx.trans (Option.some.inj (Option.some.inj hc))), H⟩
      · show Sx.StepAt _ _ _ _ _ _ _ 27
        intro L A w up hun hd F H
        have F := Sx.Fr.to F (kv' := [(100, .agg #[.int .u64 ((Wd.hi (da * db)).toNat), .int .u64 ((Wd.lo (da * db)).toNat)]), (103, .agg #[.int .u64 ((Wd.hi (db * da)).toNat), .int .u64 ((Wd.lo (db * da)).toNat)]), (97, .bool true)]) ⟨rfl, rfl, rfl, trivial⟩
        refine Sx.step_ong rfl (Sx.guard_known (d := 97) (b := true) F rfl rfl) rfl (Sx.d_bin (v := .bool true) F rfl rfl rfl (Sx.i_eqV (decide_eq_true (BitVec.mul_comm _ _)))) ?_
        rintro xv w' ⟨hx, rfl⟩
        exact ⟨(fun cv hc => hx.trans (Option.some.inj (Option.some.inj hc))), H⟩
      · show Sx.StepAt _ _ _ _ _ _ _ 28
        intro L A w up hun hd F H
        have F := Sx.Fr.to F (kv' := [(97, .bool true), (104, .bool true)]) ⟨rfl, rfl, trivial⟩
        refine Sx.step_on rfl (Sx.d_pickT (v := .bool true) F rfl rfl rfl) ?_
        rintro xv w' ⟨hx, rfl⟩
        exact ⟨(fun cv hc => hx.trans (Option.some.inj (Option.some.inj hc))), H⟩
      · show Sx.StepAt _ _ _ _ _ _ _ 29
        intro L A w up hun hd F H
        have F := Sx.Fr.to F (kv' := [(105, .bool true)]) ⟨rfl, trivial⟩
        refine Sx.step_on rfl (Sx.d_move F (Or.inl rfl) rfl) ?_
        rintro xv w' ⟨hx, rfl⟩
        exact ⟨(fun cv hc => hx.trans (Option.some.inj (Option.some.inj hc))), H⟩
      · show Sx.StepAt _ _ _ _ _ _ _ 30
        intro L A w up hun hd F H
        have F := Sx.Fr.to F (kv' := [(3, .pointer (some ⟨g1, 0, none⟩)), (106, .bool true)]) ⟨rfl, rfl, trivial⟩
        refine Sx.step_ong rfl (Sx.guard_known (d := 106) (b := true) F rfl rfl) rfl (Sx.d_load (i := 9) (xs := [.int .u64 ((Wd.hi da).toNat), .int .u64 ((Wd.lo da).toNat)]) rw_24 F H rfl rfl rfl rfl rfl) ?_
        rintro xv w' ⟨hx, rfl⟩
        exact ⟨(fun cv hc => hx.trans (Option.some.inj (Option.some.inj hc))), H⟩
      · show Sx.StepAt _ _ _ _ _ _ _ 31
        intro L A w up hun hd F H
        have F := Sx.Fr.to F (kv' := [(4, .pointer (some ⟨g2, 0, none⟩)), (106, .bool true)]) ⟨rfl, rfl, trivial⟩
        refine Sx.step_ong rfl (Sx.guard_known (d := 106) (b := true) F rfl rfl) rfl (Sx.d_load (i := 8) (xs := [.int .u64 ((Wd.hi db).toNat), .int .u64 ((Wd.lo db).toNat)]) rw_24 F H rfl rfl rfl rfl rfl) ?_
        rintro xv w' ⟨hx, rfl⟩
        exact ⟨(fun cv hc => hx.trans (Option.some.inj (Option.some.inj hc))), H⟩
      · show Sx.StepAt _ _ _ _ _ _ _ 32
        intro L A w up hun hd F H
        have F := Sx.Fr.to F (kv' := [(107, .agg #[.int .u64 ((Wd.hi da).toNat), .int .u64 ((Wd.lo da).toNat)]), (108, .agg #[.int .u64 ((Wd.hi db).toNat), .int .u64 ((Wd.lo db).toNat)]), (106, .bool true)]) ⟨rfl, rfl, rfl, trivial⟩
        refine Sx.step_ong rfl (Sx.guard_known (d := 106) (b := true) F rfl rfl) rfl (Sx.d_call (vs := [.agg #[.int .u64 ((Wd.hi da).toNat), .int .u64 ((Wd.lo da).toNat)], .agg #[.int .u64 ((Wd.hi db).toNat), .int .u64 ((Wd.lo db).toNat)]]) (v := .agg #[.int .u64 ((Wd.hi (da * db)).toNat), .int .u64 ((Wd.lo (da * db)).toNat)]) if_13 F H rfl rfl (wmul_c da db _)) ?_
        rintro xv w' ⟨hx, H⟩
        exact ⟨(fun cv hc => hx.trans (Option.some.inj (Option.some.inj hc))), H⟩
      · show Sx.StepAt _ _ _ _ _ _ _ 33
        intro L A w up hun hd F H
        have F := Sx.Fr.to F (kv' := [(5, .pointer (some ⟨g3, 0, none⟩)), (106, .bool true)]) ⟨rfl, rfl, trivial⟩
        refine Sx.step_ong rfl (Sx.guard_known (d := 106) (b := true) F rfl rfl) rfl (Sx.d_load (i := 7) (xs := [.int .u64 ((Wd.hi dc).toNat), .int .u64 ((Wd.lo dc).toNat)]) rw_24 F H rfl rfl rfl rfl rfl) ?_
        rintro xv w' ⟨hx, rfl⟩
        exact ⟨(fun cv hc => hx.trans (Option.some.inj (Option.some.inj hc))), H⟩
      · show Sx.StepAt _ _ _ _ _ _ _ 34
        intro L A w up hun hd F H
        have F := Sx.Fr.to F (kv' := [(109, .agg #[.int .u64 ((Wd.hi (da * db)).toNat), .int .u64 ((Wd.lo (da * db)).toNat)]), (110, .agg #[.int .u64 ((Wd.hi dc).toNat), .int .u64 ((Wd.lo dc).toNat)]), (106, .bool true)]) ⟨rfl, rfl, rfl, trivial⟩
        refine Sx.step_ong rfl (Sx.guard_known (d := 106) (b := true) F rfl rfl) rfl (Sx.d_call (vs := [.agg #[.int .u64 ((Wd.hi (da * db)).toNat), .int .u64 ((Wd.lo (da * db)).toNat)], .agg #[.int .u64 ((Wd.hi dc).toNat), .int .u64 ((Wd.lo dc).toNat)]]) (v := .agg #[.int .u64 ((Wd.hi ((da * db) * dc)).toNat), .int .u64 ((Wd.lo ((da * db) * dc)).toNat)]) if_13 F H rfl rfl (wmul_c (da * db) dc _)) ?_
        rintro xv w' ⟨hx, H⟩
        exact ⟨(fun cv hc => hx.trans (Option.some.inj (Option.some.inj hc))), H⟩
      · show Sx.StepAt _ _ _ _ _ _ _ 35
        intro L A w up hun hd F H
        have F := Sx.Fr.to F (kv' := [(3, .pointer (some ⟨g1, 0, none⟩)), (106, .bool true)]) ⟨rfl, rfl, trivial⟩
        refine Sx.step_ong rfl (Sx.guard_known (d := 106) (b := true) F rfl rfl) rfl (Sx.d_load (i := 9) (xs := [.int .u64 ((Wd.hi da).toNat), .int .u64 ((Wd.lo da).toNat)]) rw_24 F H rfl rfl rfl rfl rfl) ?_
        rintro xv w' ⟨hx, rfl⟩
        exact ⟨(fun cv hc => hx.trans (Option.some.inj (Option.some.inj hc))), H⟩
      · show Sx.StepAt _ _ _ _ _ _ _ 36
        intro L A w up hun hd F H
        have F := Sx.Fr.to F (kv' := [(4, .pointer (some ⟨g2, 0, none⟩)), (106, .bool true)]) ⟨rfl, rfl, trivial⟩
        refine Sx.step_ong rfl (Sx.guard_known (d := 106) (b := true) F rfl rfl) rfl (Sx.d_load (i := 8) (xs := [.int .u64 ((Wd.hi db).toNat), .int .u64 ((Wd.lo db).toNat)]) rw_24 F H rfl rfl rfl rfl rfl) ?_
        rintro xv w' ⟨hx, rfl⟩
        exact ⟨(fun cv hc => hx.trans (Option.some.inj (Option.some.inj hc))), H⟩
      · show Sx.StepAt _ _ _ _ _ _ _ 37
        intro L A w up hun hd F H
        have F := Sx.Fr.to F (kv' := [(5, .pointer (some ⟨g3, 0, none⟩)), (106, .bool true)]) ⟨rfl, rfl, trivial⟩
        refine Sx.step_ong rfl (Sx.guard_known (d := 106) (b := true) F rfl rfl) rfl (Sx.d_load (i := 7) (xs := [.int .u64 ((Wd.hi dc).toNat), .int .u64 ((Wd.lo dc).toNat)]) rw_24 F H rfl rfl rfl rfl rfl) ?_
        rintro xv w' ⟨hx, rfl⟩
        exact ⟨(fun cv hc => hx.trans (Option.some.inj (Option.some.inj hc))), H⟩
      · show Sx.StepAt _ _ _ _ _ _ _ 38
        intro L A w up hun hd F H
        have F := Sx.Fr.to F (kv' := [(113, .agg #[.int .u64 ((Wd.hi db).toNat), .int .u64 ((Wd.lo db).toNat)]), (114, .agg #[.int .u64 ((Wd.hi dc).toNat), .int .u64 ((Wd.lo dc).toNat)]), (106, .bool true)]) ⟨rfl, rfl, rfl, trivial⟩
        refine Sx.step_ong rfl (Sx.guard_known (d := 106) (b := true) F rfl rfl) rfl (Sx.d_call (vs := [.agg #[.int .u64 ((Wd.hi db).toNat), .int .u64 ((Wd.lo db).toNat)], .agg #[.int .u64 ((Wd.hi dc).toNat), .int .u64 ((Wd.lo dc).toNat)]]) (v := .agg #[.int .u64 ((Wd.hi (db * dc)).toNat), .int .u64 ((Wd.lo (db * dc)).toNat)]) if_13 F H rfl rfl (wmul_c db dc _)) ?_
        rintro xv w' ⟨hx, H⟩
        exact ⟨(fun cv hc => hx.trans (Option.some.inj (Option.some.inj hc))), H⟩
      · show Sx.StepAt _ _ _ _ _ _ _ 39
        intro L A w up hun hd F H
        have F := Sx.Fr.to F (kv' := [(112, .agg #[.int .u64 ((Wd.hi da).toNat), .int .u64 ((Wd.lo da).toNat)]), (115, .agg #[.int .u64 ((Wd.hi (db * dc)).toNat), .int .u64 ((Wd.lo (db * dc)).toNat)]), (106, .bool true)]) ⟨rfl, rfl, rfl, trivial⟩
        refine Sx.step_ong rfl (Sx.guard_known (d := 106) (b := true) F rfl rfl) rfl (Sx.d_call (vs := [.agg #[.int .u64 ((Wd.hi da).toNat), .int .u64 ((Wd.lo da).toNat)], .agg #[.int .u64 ((Wd.hi (db * dc)).toNat), .int .u64 ((Wd.lo (db * dc)).toNat)]]) (v := .agg #[.int .u64 ((Wd.hi (da * (db * dc))).toNat), .int .u64 ((Wd.lo (da * (db * dc))).toNat)]) if_13 F H rfl rfl (wmul_c da (db * dc) _)) ?_
        rintro xv w' ⟨hx, H⟩
        exact ⟨(fun cv hc => hx.trans (Option.some.inj (Option.some.inj hc))), H⟩
      · show Sx.StepAt _ _ _ _ _ _ _ 40
        intro L A w up hun hd F H
        have F := Sx.Fr.to F (kv' := [(111, .agg #[.int .u64 ((Wd.hi ((da * db) * dc)).toNat), .int .u64 ((Wd.lo ((da * db) * dc)).toNat)]), (116, .agg #[.int .u64 ((Wd.hi (da * (db * dc))).toNat), .int .u64 ((Wd.lo (da * (db * dc))).toNat)]), (106, .bool true)]) ⟨rfl, rfl, rfl, trivial⟩
        refine Sx.step_ong rfl (Sx.guard_known (d := 106) (b := true) F rfl rfl) rfl (Sx.d_bin (v := .bool true) F rfl rfl rfl (Sx.i_eqV (decide_eq_true (BitVec.mul_assoc _ _ _)))) ?_
        rintro xv w' ⟨hx, rfl⟩
        exact ⟨(fun cv hc => hx.trans (Option.some.inj (Option.some.inj hc))), H⟩
      · show Sx.StepAt _ _ _ _ _ _ _ 41
        intro L A w up hun hd F H
        have F := Sx.Fr.to F (kv' := [(106, .bool true), (117, .bool true)]) ⟨rfl, rfl, trivial⟩
        refine Sx.step_on rfl (Sx.d_pickT (v := .bool true) F rfl rfl rfl) ?_
        rintro xv w' ⟨hx, rfl⟩
        exact ⟨(fun cv hc => hx.trans (Option.some.inj (Option.some.inj hc))), H⟩
      · show Sx.StepAt _ _ _ _ _ _ _ 42
        intro L A w up hun hd F H
        have F := Sx.Fr.to F (kv' := [(118, .bool true)]) ⟨rfl, trivial⟩
        refine Sx.step_on rfl (Sx.d_move F (Or.inl rfl) rfl) ?_
        rintro xv w' ⟨hx, rfl⟩
        exact ⟨(fun cv hc => hx.trans (Option.some.inj (Option.some.inj hc))), H⟩
      · show Sx.StepAt _ _ _ _ _ _ _ 43
        intro L A w up hun hd F H
        have F := Sx.Fr.to F (kv' := [(3, .pointer (some ⟨g1, 0, none⟩)), (119, .bool true)]) ⟨rfl, rfl, trivial⟩
        refine Sx.step_ong rfl (Sx.guard_known (d := 119) (b := true) F rfl rfl) rfl (Sx.d_load (i := 9) (xs := [.int .u64 ((Wd.hi da).toNat), .int .u64 ((Wd.lo da).toNat)]) rw_24 F H rfl rfl rfl rfl rfl) ?_
        rintro xv w' ⟨hx, rfl⟩
        exact ⟨(fun cv hc => hx.trans (Option.some.inj (Option.some.inj hc))), H⟩
      · show Sx.StepAt _ _ _ _ _ _ _ 44
        intro L A w up hun hd F H
        have F := Sx.Fr.to F (kv' := [(119, .bool true)]) ⟨rfl, trivial⟩
        refine Sx.step_ong rfl (Sx.guard_known (d := 119) (b := true) F rfl rfl) rfl (Sx.d_call (vs := [.int .u64 1]) (v := .agg #[.int .u64 ((Wd.hi 1#128).toNat), .int .u64 ((Wd.lo 1#128).toNat)]) if_14 F H rfl rfl (Calls.val (wofV_c 1#64 _) (by kernel_rfl) (by kernel_rfl))) ?_
        rintro xv w' ⟨hx, H⟩
        exact ⟨(fun cv hc => hx.trans (Option.some.inj (Option.some.inj hc))), H⟩
      · show Sx.StepAt _ _ _ _ _ _ _ 45
        intro L A w up hun hd F H
        have F := Sx.Fr.to F (kv' := [(120, .agg #[.int .u64 ((Wd.hi da).toNat), .int .u64 ((Wd.lo da).toNat)]), (121, .agg #[.int .u64 ((Wd.hi 1#128).toNat), .int .u64 ((Wd.lo 1#128).toNat)]), (119, .bool true)]) ⟨rfl, rfl, rfl, trivial⟩
        refine Sx.step_ong rfl (Sx.guard_known (d := 119) (b := true) F rfl rfl) rfl (Sx.d_call (vs := [.agg #[.int .u64 ((Wd.hi da).toNat), .int .u64 ((Wd.lo da).toNat)], .agg #[.int .u64 ((Wd.hi 1#128).toNat), .int .u64 ((Wd.lo 1#128).toNat)]]) (v := .agg #[.int .u64 ((Wd.hi (da * 1#128)).toNat), .int .u64 ((Wd.lo (da * 1#128)).toNat)]) if_13 F H rfl rfl (wmul_c da 1#128 _)) ?_
        rintro xv w' ⟨hx, H⟩
        exact ⟨(fun cv hc => hx.trans (Option.some.inj (Option.some.inj hc))), H⟩
      · show Sx.StepAt _ _ _ _ _ _ _ 46
        intro L A w up hun hd F H
        have F := Sx.Fr.to F (kv' := [(3, .pointer (some ⟨g1, 0, none⟩)), (119, .bool true)]) ⟨rfl, rfl, trivial⟩
        refine Sx.step_ong rfl (Sx.guard_known (d := 119) (b := true) F rfl rfl) rfl (Sx.d_load (i := 9) (xs := [.int .u64 ((Wd.hi da).toNat), .int .u64 ((Wd.lo da).toNat)]) rw_24 F H rfl rfl rfl rfl rfl) ?_
        rintro xv w' ⟨hx, rfl⟩
        exact ⟨(fun cv hc => hx.trans (Option.some.inj (Option.some.inj hc))), H⟩
      · show Sx.StepAt _ _ _ _ _ _ _ 47
        intro L A w up hun hd F H
        have F := Sx.Fr.to F (kv' := [(122, .agg #[.int .u64 ((Wd.hi (da * 1#128)).toNat), .int .u64 ((Wd.lo (da * 1#128)).toNat)]), (123, .agg #[.int .u64 ((Wd.hi da).toNat), .int .u64 ((Wd.lo da).toNat)]), (119, .bool true)]) ⟨rfl, rfl, rfl, trivial⟩
        refine Sx.step_ong rfl (Sx.guard_known (d := 119) (b := true) F rfl rfl) rfl (Sx.d_bin (v := .bool true) F rfl rfl rfl (Sx.i_eqV (decide_eq_true (BitVec.mul_one _)))) ?_
        rintro xv w' ⟨hx, rfl⟩
        exact ⟨(fun cv hc => hx.trans (Option.some.inj (Option.some.inj hc))), H⟩
      · show Sx.StepAt _ _ _ _ _ _ _ 48
        intro L A w up hun hd F H
        have F := Sx.Fr.to F (kv' := [(119, .bool true), (124, .bool true)]) ⟨rfl, rfl, trivial⟩
        refine Sx.step_on rfl (Sx.d_pickT (v := .bool true) F rfl rfl rfl) ?_
        rintro xv w' ⟨hx, rfl⟩
        exact ⟨(fun cv hc => hx.trans (Option.some.inj (Option.some.inj hc))), H⟩
      · show Sx.StepAt _ _ _ _ _ _ _ 49
        intro L A w up hun hd F H
        have F := Sx.Fr.to F (kv' := [(125, .bool true)]) ⟨rfl, trivial⟩
        refine Sx.step_on rfl (Sx.d_move F (Or.inl rfl) rfl) ?_
        rintro xv w' ⟨hx, rfl⟩
        exact ⟨(fun cv hc => hx.trans (Option.some.inj (Option.some.inj hc))), H⟩
      · show Sx.StepAt _ _ _ _ _ _ _ 50
        intro L A w up hun hd F H
        have F := Sx.Fr.to F (kv' := [(3, .pointer (some ⟨g1, 0, none⟩)), (126, .bool true)]) ⟨rfl, rfl, trivial⟩
        refine Sx.step_ong rfl (Sx.guard_known (d := 126) (b := true) F rfl rfl) rfl (Sx.d_load (i := 9) (xs := [.int .u64 ((Wd.hi da).toNat), .int .u64 ((Wd.lo da).toNat)]) rw_24 F H rfl rfl rfl rfl rfl) ?_
        rintro xv w' ⟨hx, rfl⟩
        exact ⟨(fun cv hc => hx.trans (Option.some.inj (Option.some.inj hc))), H⟩
      · show Sx.StepAt _ _ _ _ _ _ _ 51
        intro L A w up hun hd F H
        have F := Sx.Fr.to F (kv' := [(126, .bool true)]) ⟨rfl, trivial⟩
        refine Sx.step_ong rfl (Sx.guard_known (d := 126) (b := true) F rfl rfl) rfl (Sx.d_build (qs := #[]) (v := .agg #[.int .u64 ((Wd.hi 0#128).toNat), .int .u64 ((Wd.lo 0#128).toNat)]) F rfl rfl (by kernel_rfl)) ?_
        rintro xv w' ⟨hx, rfl⟩
        exact ⟨(fun cv hc => hx.trans (Option.some.inj (Option.some.inj hc))), H⟩
      · show Sx.StepAt _ _ _ _ _ _ _ 52
        intro L A w up hun hd F H
        have F := Sx.Fr.to F (kv' := [(127, .agg #[.int .u64 ((Wd.hi da).toNat), .int .u64 ((Wd.lo da).toNat)]), (128, .agg #[.int .u64 ((Wd.hi 0#128).toNat), .int .u64 ((Wd.lo 0#128).toNat)]), (126, .bool true)]) ⟨rfl, rfl, rfl, trivial⟩
        refine Sx.step_ong rfl (Sx.guard_known (d := 126) (b := true) F rfl rfl) rfl (Sx.d_call (vs := [.agg #[.int .u64 ((Wd.hi da).toNat), .int .u64 ((Wd.lo da).toNat)], .agg #[.int .u64 ((Wd.hi 0#128).toNat), .int .u64 ((Wd.lo 0#128).toNat)]]) (v := .agg #[.int .u64 ((Wd.hi (da * 0#128)).toNat), .int .u64 ((Wd.lo (da * 0#128)).toNat)]) if_13 F H rfl rfl (wmul_c da 0#128 _)) ?_
        rintro xv w' ⟨hx, H⟩
        exact ⟨(fun cv hc => hx.trans (Option.some.inj (Option.some.inj hc))), H⟩
      · show Sx.StepAt _ _ _ _ _ _ _ 53
        intro L A w up hun hd F H
        have F := Sx.Fr.to F (kv' := [(126, .bool true)]) ⟨rfl, trivial⟩
        refine Sx.step_ong rfl (Sx.guard_known (d := 126) (b := true) F rfl rfl) rfl (Sx.d_build (qs := #[]) (v := .agg #[.int .u64 ((Wd.hi 0#128).toNat), .int .u64 ((Wd.lo 0#128).toNat)]) F rfl rfl (by kernel_rfl)) ?_
        rintro xv w' ⟨hx, rfl⟩
        exact ⟨(fun cv hc => hx.trans (Option.some.inj (Option.some.inj hc))), H⟩
      · show Sx.StepAt _ _ _ _ _ _ _ 54
        intro L A w up hun hd F H
        have F := Sx.Fr.to F (kv' := [(129, .agg #[.int .u64 ((Wd.hi (da * 0#128)).toNat), .int .u64 ((Wd.lo (da * 0#128)).toNat)]), (130, .agg #[.int .u64 ((Wd.hi 0#128).toNat), .int .u64 ((Wd.lo 0#128).toNat)]), (126, .bool true)]) ⟨rfl, rfl, rfl, trivial⟩
        refine Sx.step_ong rfl (Sx.guard_known (d := 126) (b := true) F rfl rfl) rfl (Sx.d_bin (v := .bool true) F rfl rfl rfl (Sx.i_eqV (decide_eq_true (BitVec.mul_zero)))) ?_
        rintro xv w' ⟨hx, rfl⟩
        exact ⟨(fun cv hc => hx.trans (Option.some.inj (Option.some.inj hc))), H⟩
      · show Sx.StepAt _ _ _ _ _ _ _ 55
        intro L A w up hun hd F H
        have F := Sx.Fr.to F (kv' := [(126, .bool true), (131, .bool true)]) ⟨rfl, rfl, trivial⟩
        refine Sx.step_on rfl (Sx.d_pickT (v := .bool true) F rfl rfl rfl) ?_
        rintro xv w' ⟨hx, rfl⟩
        exact ⟨(fun cv hc => hx.trans (Option.some.inj (Option.some.inj hc))), H⟩
      · show Sx.StepAt _ _ _ _ _ _ _ 56
        intro L A w up hun hd F H
        have F := Sx.Fr.to F (kv' := [(132, .bool true)]) ⟨rfl, trivial⟩
        refine Sx.step_on rfl (Sx.d_move F (Or.inl rfl) rfl) ?_
        rintro xv w' ⟨hx, rfl⟩
        exact ⟨(fun cv hc => hx.trans (Option.some.inj (Option.some.inj hc))), H⟩
      · show Sx.StepAt _ _ _ _ _ _ _ 57
        intro L A w up hun hd F H
        have F := Sx.Fr.to F (kv' := [(21, .pointer (some ⟨g11, 0, none⟩)), (133, .bool true)]) ⟨rfl, rfl, trivial⟩
        refine Sx.step_ong rfl (Sx.guard_known (d := 133) (b := true) F rfl rfl) rfl (Sx.d_load (i := 0) (xs := [.int .u64 ((Wd.hi (da - da)).toNat), .int .u64 ((Wd.lo (da - da)).toNat)]) rw_24 F H rfl rfl rfl rfl rfl) ?_
        rintro xv w' ⟨hx, rfl⟩
        exact ⟨(fun cv hc => hx.trans (Option.some.inj (Option.some.inj hc))), H⟩
      · show Sx.StepAt _ _ _ _ _ _ _ 58
        intro L A w up hun hd F H
        have F := Sx.Fr.to F (kv' := [(133, .bool true)]) ⟨rfl, trivial⟩
        refine Sx.step_ong rfl (Sx.guard_known (d := 133) (b := true) F rfl rfl) rfl (Sx.d_build (qs := #[]) (v := .agg #[.int .u64 ((Wd.hi 0#128).toNat), .int .u64 ((Wd.lo 0#128).toNat)]) F rfl rfl (by kernel_rfl)) ?_
        rintro xv w' ⟨hx, rfl⟩
        exact ⟨(fun cv hc => hx.trans (Option.some.inj (Option.some.inj hc))), H⟩
      · show Sx.StepAt _ _ _ _ _ _ _ 59
        intro L A w up hun hd F H
        have F := Sx.Fr.to F (kv' := [(134, .agg #[.int .u64 ((Wd.hi (da - da)).toNat), .int .u64 ((Wd.lo (da - da)).toNat)]), (135, .agg #[.int .u64 ((Wd.hi 0#128).toNat), .int .u64 ((Wd.lo 0#128).toNat)]), (133, .bool true)]) ⟨rfl, rfl, rfl, trivial⟩
        refine Sx.step_ong rfl (Sx.guard_known (d := 133) (b := true) F rfl rfl) rfl (Sx.d_bin (v := .bool true) F rfl rfl rfl (Sx.i_eqV (decide_eq_true (BitVec.sub_self _)))) ?_
        rintro xv w' ⟨hx, rfl⟩
        exact ⟨(fun cv hc => hx.trans (Option.some.inj (Option.some.inj hc))), H⟩
      · show Sx.StepAt _ _ _ _ _ _ _ 60
        intro L A w up hun hd F H
        have F := Sx.Fr.to F (kv' := [(133, .bool true), (136, .bool true)]) ⟨rfl, rfl, trivial⟩
        refine Sx.step_on rfl (Sx.d_pickT (v := .bool true) F rfl rfl rfl) ?_
        rintro xv w' ⟨hx, rfl⟩
        exact ⟨(fun cv hc => hx.trans (Option.some.inj (Option.some.inj hc))), H⟩
      · show Sx.StepAt _ _ _ _ _ _ _ 61
        intro L A w up hun hd F H
        have F := Sx.Fr.to F (kv' := [(137, .bool true)]) ⟨rfl, trivial⟩
        refine Sx.step_on rfl (Sx.d_move F (Or.inl rfl) rfl) ?_
        rintro xv w' ⟨hx, rfl⟩
        exact ⟨(fun cv hc => hx.trans (Option.some.inj (Option.some.inj hc))), H⟩
      · show Sx.StepAt _ _ _ _ _ _ _ 62
        intro L A w up hun hd F H
        have F := Sx.Fr.to F (kv' := [(22, .bool false), (138, .bool true)]) ⟨rfl, rfl, trivial⟩
        refine Sx.step_ong rfl (Sx.guard_known (d := 138) (b := true) F rfl rfl) rfl (Sx.d_move F (Or.inl rfl) rfl) ?_
        rintro xv w' ⟨hx, rfl⟩
        exact ⟨(fun cv hc => hx.trans (Option.some.inj (Option.some.inj hc))), H⟩
      · show Sx.StepAt _ _ _ _ _ _ _ 63
        intro L A w up hun hd F H
        have F := Sx.Fr.to F (kv' := [(139, .bool false), (138, .bool true)]) ⟨rfl, rfl, trivial⟩
        refine Sx.step_ong rfl (Sx.guard_known (d := 138) (b := true) F rfl rfl) rfl (Sx.d_un (v := .bool true) F rfl rfl rfl) ?_
        rintro xv w' ⟨hx, rfl⟩
        exact ⟨(fun cv hc => hx.trans (Option.some.inj (Option.some.inj hc))), H⟩
      · show Sx.StepAt _ _ _ _ _ _ _ 64
        intro L A w up hun hd F H
        have F := Sx.Fr.to F (kv' := [(138, .bool true), (140, .bool true)]) ⟨rfl, rfl, trivial⟩
        refine Sx.step_on rfl (Sx.d_pickT (v := .bool true) F rfl rfl rfl) ?_
        rintro xv w' ⟨hx, rfl⟩
        exact ⟨(fun cv hc => hx.trans (Option.some.inj (Option.some.inj hc))), H⟩
      · show Sx.StepAt _ _ _ _ _ _ _ 65
        intro L A w up hun hd F H
        have F := Sx.Fr.to F (kv' := [(141, .bool true)]) ⟨rfl, trivial⟩
        refine Sx.step_on rfl (Sx.d_move F (Or.inr rfl) rfl) ?_
        rintro xv w' ⟨hx, rfl⟩
        exact ⟨(fun cv hc => hx.trans (Option.some.inj (Option.some.inj hc))), H⟩
    · intro L A w hL F H
      have F := Sx.Fr.to F (kv' := [(6, .bool true)]) ⟨rfl, trivial⟩
      refine hK12 _ _ ?_
      refine wp_ret ?_
      try dsimp only [Exit.then, Exit.inBlock, Exit.jump]
      refine Sx.ret1 F Try.results3 (Sx.res_tmp (v := .bool true) F rfl) ⟨?_, H.below⟩
      rfl
end Go.Proofs.Ytpbdffmgendboab
