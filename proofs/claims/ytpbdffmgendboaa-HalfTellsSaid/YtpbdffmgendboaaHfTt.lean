/- HalfTells walked. -/
import Derived.Test.YtpbdffmgendboaaHt
import Derived.Test.YtpbdffmgendboaaWords
namespace Go.Proofs.Ytpbdffmgendboaa
open Go Go.RowKit
set_option maxHeartbeats 4000000 in
set_option maxRecDepth 100000 in
theorem halfTells_lo (dc : BitVec 128) (k0 k1 : BitVec 32) (hb : Bool) (x : BitVec 128) (many : Int) (hy : many < 0) (w0 : World) : Calls Try.prog 12 #[.agg #[.int .u64 ((Wd.hi dc).toNat), .int .u64 ((Wd.lo dc).toNat), .int .u32 k0.toNat, .int .u32 k1.toNat, .bool hb], .int .i64 many, .agg #[.int .u64 ((Wd.hi x).toNat), .int .u64 ((Wd.lo x).toNat)]] w0 fun e w' => e = .returned (.bool true) ∧ Below w0.heap.size w0 w' := by
  refine Sx.enter (args := [.agg #[.int .u64 ((Wd.hi dc).toNat), .int .u64 ((Wd.lo dc).toNat), .int .u32 k0.toNat, .int .u32 k1.toNat, .bool hb], .int .i64 many, .agg #[.int .u64 ((Wd.hi x).toNat), .int .u64 ((Wd.lo x).toNat)]]) Try.func12 rfl Try.ntmps12 (Nat.le_of_ble_eq_true rfl) (fun A F => ?_)
  have H := Sx.Own.start w0
  refine Sx.seq (fun K1 hK1 => ?_)
  refine Sx.plain ?_
  refine Sx.sb F (Sx.d_box F H rfl rfl [.int .u64 ((Wd.hi dc).toNat), .int .u64 ((Wd.lo dc).toNat), .int .u32 k0.toNat, .int .u32 k1.toNat, .bool hb] rfl) (Sx.wanted_none rfl _) rfl (by decide) (fun g1 A w F H => ?_)
  refine Sx.sb F (Sx.d_box F H rfl rfl [.int .u64 ((Wd.hi x).toNat), .int .u64 ((Wd.lo x).toNat)] rfl) (Sx.wanted_none rfl _) rfl (by decide) (fun g2 A w F H => ?_)
  refine Sx.sv F (Sx.d_move F (Or.inr rfl) rfl) (Sx.wanted_none rfl _) rfl (by decide) (fun A F => ?_)
  refine Sx.nil ?_
  refine hK1 _ _ ?_
  refine Sx.seq (fun K2 hK2 => ?_)
  refine Sx.seq (fun K3 hK3 => ?_)
  refine Sx.plain ?_
  refine Sx.sw F (Sx.d_call (vs := []) (v := .bool true) if_45 F H rfl rfl (awake12_c _)) (Sx.wanted_none rfl _) rfl (by decide) (fun A w F H => ?_)
  refine Sx.sv F (Sx.d_un (v := .bool false) F rfl rfl rfl) (Sx.wanted_none rfl _) rfl (by decide) (fun A F => ?_)
  refine Sx.nil ?_
  refine hK3 _ _ ?_
  refine Sx.condF F rfl ?_
  refine wp_skip ?_
  refine hK2 _ _ ?_
  refine Sx.seq (fun K4 hK4 => ?_)
  refine Sx.plain ?_
  refine Sx.sv F (Sx.d_load (i := 1) (xs := [.int .u64 ((Wd.hi dc).toNat), .int .u64 ((Wd.lo dc).toNat), .int .u32 k0.toNat, .int .u32 k1.toNat, .bool hb]) rw_82 F H rfl rfl rfl rfl rfl) (Sx.wanted_none rfl _) rfl (by decide) (fun A F => ?_)
  refine Sx.sv F (Sx.d_move F (Or.inl rfl) rfl) (Sx.wanted_none rfl _) rfl (by decide) (fun A F => ?_)
  refine Sx.sw F (Sx.d_call (vs := [.agg #[.int .u64 ((Wd.hi dc).toNat), .int .u64 ((Wd.lo dc).toNat), .int .u32 k0.toNat, .int .u32 k1.toNat, .bool hb], .int .i64 many]) (v := .tuple #[.slice none 0 0, .agg #[.int .u64 ((Wd.hi 0#128).toNat), .int .u64 ((Wd.lo 0#128).toNat), .int .u32 0, .int .u32 0, .bool false], .int .i64 1]) if_46 F H rfl rfl (Calls.val (hwords_no many (by omega) dc k0 k1 hb _) rfl (by kernel_rfl))) (Sx.wanted_none rfl _) rfl (by decide) (fun A w F H => ?_)
  refine Sx.sv F (Sx.d_move F (Or.inl rfl) rfl) (Sx.wanted_none rfl _) rfl (by decide) (fun A F => ?_)
  refine Sx.sv F (Sx.d_extract (v := .slice none 0 0) F rfl rfl rfl) (Sx.wanted_none rfl _) rfl (by decide) (fun A F => ?_)
  refine Sx.sv F (Sx.d_extract (v := .agg #[.int .u64 ((Wd.hi 0#128).toNat), .int .u64 ((Wd.lo 0#128).toNat), .int .u32 0, .int .u32 0, .bool false]) F rfl rfl rfl) (Sx.wanted_none rfl _) rfl (by decide) (fun A F => ?_)
  refine Sx.sv F (Sx.d_extract (v := .int .i64 1) F rfl rfl rfl) (Sx.wanted_none rfl _) rfl (by decide) (fun A F => ?_)
  refine Sx.sb F (Sx.d_alloc H rfl [.int .u64 ((Wd.hi 0#128).toNat), .int .u64 ((Wd.lo 0#128).toNat), .int .u32 0, .int .u32 0, .bool false] zero_82) (Sx.wanted_none rfl _) rfl (by decide) (fun g3 A w F H => ?_)
  refine Sx.sv F (Sx.d_move F (Or.inr rfl) rfl) (Sx.wanted_none rfl _) rfl (by decide) (fun A F => ?_)
  refine Sx.ss F (Sx.d_store (i := 0) (xs := [.int .u64 ((Wd.hi 0#128).toNat), .int .u64 ((Wd.lo 0#128).toNat), .int .u32 0, .int .u32 0, .bool false]) (us := [.int .u64 ((Wd.hi 0#128).toNat), .int .u64 ((Wd.lo 0#128).toNat), .int .u32 0, .int .u32 0, .bool false]) sz_82 F H rfl rfl rfl rfl rfl rfl rfl (Nat.le_of_ble_eq_true rfl) rfl) (Sx.wanted_none rfl _) rfl (fun A w F (H : Sx.Own w0 _ [(true, g3, [.int .u64 ((Wd.hi 0#128).toNat), .int .u64 ((Wd.lo 0#128).toNat), .int .u32 0, .int .u32 0, .bool false]), (true, g2, [.int .u64 ((Wd.hi x).toNat), .int .u64 ((Wd.lo x).toNat)]), (true, g1, [.int .u64 ((Wd.hi dc).toNat), .int .u64 ((Wd.lo dc).toNat), .int .u32 k0.toNat, .int .u32 k1.toNat, .bool hb])] []) => ?_)
  refine Sx.sv F (Sx.d_move F (Or.inr rfl) rfl) (Sx.wanted_none rfl _) rfl (by decide) (fun A F => ?_)
  refine Sx.nil ?_
  refine hK4 _ _ ?_
  refine Sx.seq (fun K5 hK5 => ?_)
  refine Sx.seq (fun K6 hK6 => ?_)
  refine Sx.plain ?_
  refine Sx.sv F (Sx.d_move F (Or.inl rfl) rfl) (Sx.wanted_none rfl _) rfl (by decide) (fun A F => ?_)
  refine Sx.sv F (Sx.d_bin (v := .bool true) F rfl rfl rfl (Sx.i_lt (decide_eq_true hy))) (Sx.wanted_none rfl _) rfl (by decide) (fun A F => ?_)
  refine Sx.sv F (Sx.d_move F (Or.inl rfl) rfl) (Sx.wanted_none rfl _) rfl (by decide) (fun A F => ?_)
  refine Sx.su F (Sx.wanted_off rfl (Sx.guard_known (d := 23) (b := true) F rfl rfl) rfl) rfl (by decide) (fun A F => ?_)
  refine Sx.su F (Sx.wanted_off rfl (Sx.guard_known (d := 23) (b := true) F rfl rfl) rfl) rfl (by decide) (fun A F => ?_)
  refine Sx.sv F (Sx.d_pickT (v := .bool true) F rfl rfl rfl) (Sx.wanted_none rfl _) rfl (by decide) (fun A F => ?_)
  refine Sx.nil ?_
  refine hK6 _ _ ?_
  refine Sx.condT F rfl ?_
  refine Sx.seq (fun K7 hK7 => ?_)
  refine Sx.plain ?_
  refine Sx.sv F (Sx.d_move F (Or.inl rfl) rfl) (Sx.wanted_none rfl _) rfl (by decide) (fun A F => ?_)
  refine Sx.sv F (Sx.d_bin (v := .bool false) F rfl rfl rfl (Sx.i_ne (by decide))) (Sx.wanted_none rfl _) rfl (by decide) (fun A F => ?_)
  refine Sx.sv F (Sx.d_move F (Or.inl rfl) rfl) (Sx.wanted_none rfl _) rfl (by decide) (fun A F => ?_)
  refine Sx.sv F (Sx.d_move F (Or.inl rfl) rfl) (Sx.wanted_on rfl (Sx.guard_known (d := 29) (b := false) F rfl rfl) rfl) rfl (by decide) (fun A F => ?_)
  have H := Sx.Own.nilR H 22 1
  refine Sx.sv F (Sx.d_len (i := 0) el_67 F H rfl rfl rfl) (Sx.wanted_on rfl (Sx.guard_known (d := 29) (b := false) F rfl rfl) rfl) rfl (by decide) (fun A F => ?_)
  refine Sx.sv F (Sx.d_bin (v := .bool false) F rfl rfl rfl (Sx.i_gt (by decide))) (Sx.wanted_on rfl (Sx.guard_known (d := 29) (b := false) F rfl rfl) rfl) rfl (by decide) (fun A F => ?_)
  refine Sx.sv F (Sx.d_pickF (v := .bool false) F rfl rfl rfl) (Sx.wanted_none rfl _) rfl (by decide) (fun A F => ?_)
  refine Sx.sv F (Sx.d_move F (Or.inl rfl) rfl) (Sx.wanted_none rfl _) rfl (by decide) (fun A F => ?_)
  refine Sx.sv F (Sx.d_load (i := 0) (xs := [.int .u64 ((Wd.hi 0#128).toNat), .int .u64 ((Wd.lo 0#128).toNat), .int .u32 0, .int .u32 0, .bool false]) rw_82 F H rfl rfl rfl rfl rfl) (Sx.wanted_on rfl (Sx.guard_known (d := 34) (b := false) F rfl rfl) rfl) rfl (by decide) (fun A F => ?_)
  refine Sx.sv F (Sx.d_build (qs := #[]) (v := .agg #[.int .u64 ((Wd.hi 0#128).toNat), .int .u64 ((Wd.lo 0#128).toNat), .int .u32 0, .int .u32 0, .bool false]) F rfl rfl (by kernel_rfl)) (Sx.wanted_on rfl (Sx.guard_known (d := 34) (b := false) F rfl rfl) rfl) rfl (by decide) (fun A F => ?_)
  refine Sx.sv F (Sx.d_bin (v := .bool false) F rfl rfl rfl (Sx.i_neH (by rw [show Sx.eqbH 0#128 0#32 0#32 false 0#128 0#32 0#32 false = true from decide_eq_true ⟨rfl, rfl, rfl, rfl⟩] <;> rfl))) (Sx.wanted_on rfl (Sx.guard_known (d := 34) (b := false) F rfl rfl) rfl) rfl (by decide) (fun A F => ?_)
  refine Sx.sv F (Sx.d_pickF (v := .bool false) F rfl rfl rfl) (Sx.wanted_none rfl _) rfl (by decide) (fun A F => ?_)
  refine Sx.nil ?_
  refine hK7 _ _ ?_
  refine Sx.condF F rfl ?_
  refine wp_skip ?_
  refine hK5 _ _ ?_
  refine Sx.seq (fun K8 hK8 => ?_)
  have F := Sx.Fr.to F (kv' := [(0, .agg #[.int .u64 ((Wd.hi dc).toNat), .int .u64 ((Wd.lo dc).toNat), .int .u32 k0.toNat, .int .u32 k1.toNat, .bool hb]), (1, .int .i64 many), (2, .agg #[.int .u64 ((Wd.hi x).toNat), .int .u64 ((Wd.lo x).toNat)]), (3, .pointer (some ⟨g1, 0, none⟩)), (5, .pointer (some ⟨g2, 0, none⟩)), (12, .bool true), (13, .bool false), (15, .agg #[.int .u64 ((Wd.hi dc).toNat), .int .u64 ((Wd.lo dc).toNat), .int .u32 k0.toNat, .int .u32 k1.toNat, .bool hb]), (16, .int .i64 many), (17, .tuple #[.slice none 0 0, .agg #[.int .u64 ((Wd.hi 0#128).toNat), .int .u64 ((Wd.lo 0#128).toNat), .int .u32 0, .int .u32 0, .bool false], .int .i64 1]), (14, .tuple #[.slice none 0 0, .agg #[.int .u64 ((Wd.hi 0#128).toNat), .int .u64 ((Wd.lo 0#128).toNat), .int .u32 0, .int .u32 0, .bool false], .int .i64 1]), (18, .slice none 0 0), (19, .agg #[.int .u64 ((Wd.hi 0#128).toNat), .int .u64 ((Wd.lo 0#128).toNat), .int .u32 0, .int .u32 0, .bool false]), (20, .int .i64 1), (8, .pointer (some ⟨g3, 0, none⟩)), (7, .slice none 0 0), (9, .int .i64 1), (21, .int .i64 many), (22, .bool true), (23, .bool true), (24, undef), (25, undef), (26, .bool true), (27, .int .i64 1), (28, .bool false), (29, .bool false), (30, .slice none 0 0), (31, .int .i64 0), (32, .bool false), (33, .bool false), (34, .bool false), (35, .agg #[.int .u64 ((Wd.hi 0#128).toNat), .int .u64 ((Wd.lo 0#128).toNat), .int .u32 0, .int .u32 0, .bool false]), (36, .agg #[.int .u64 ((Wd.hi 0#128).toNat), .int .u64 ((Wd.lo 0#128).toNat), .int .u32 0, .int .u32 0, .bool false]), (37, .bool false), (38, .bool false)]) ⟨rfl, rfl, rfl, rfl, rfl, rfl, rfl, rfl, rfl, rfl, rfl, rfl, rfl, rfl, rfl, rfl, rfl, rfl, rfl, rfl, rfl, rfl, rfl, rfl, rfl, rfl, rfl, rfl, rfl, rfl, rfl, rfl, rfl, rfl, rfl, trivial⟩
  refine Sx.drawn F (by kernel_rfl) (by kernel_rfl) (by kernel_rfl) [some (.agg #[.int .u64 ((Wd.hi dc).toNat), .int .u64 ((Wd.lo dc).toNat), .int .u32 k0.toNat, .int .u32 k1.toNat, .bool hb]), some (.int .u64 ((Hf.word ⟨dc, k0, k1, hb⟩).toNat)), some (.agg #[.int .u64 ((Wd.hi dc).toNat), .int .u64 ((Wd.lo dc).toNat), .int .u32 k0.toNat, .int .u32 k1.toNat, .bool hb]), some (.agg #[.int .u64 ((Wd.hi dc).toNat), .int .u64 ((Wd.lo dc).toNat), .int .u32 k0.toNat, .int .u32 k1.toNat, .bool hb]), some (.int .u64 ((Hf.word ⟨dc, k0, k1, hb⟩).toNat)), some (.bool true), some (.bool true), some (.agg #[.int .u64 ((Wd.hi dc).toNat), .int .u64 ((Wd.lo dc).toNat), .int .u32 k0.toNat, .int .u32 k1.toNat, .bool hb]), some (.agg #[.int .u64 ((Wd.hi ((Hf.step ⟨dc, k0, k1, hb⟩).c)).toNat), .int .u64 ((Wd.lo ((Hf.step ⟨dc, k0, k1, hb⟩).c)).toNat), .int .u32 (((Hf.step ⟨dc, k0, k1, hb⟩).k0).toNat), .int .u32 (((Hf.step ⟨dc, k0, k1, hb⟩).k1).toNat), .bool ((Hf.step ⟨dc, k0, k1, hb⟩).b)]), some (.agg #[.int .u64 ((Wd.hi ((Hf.step ⟨dc, k0, k1, hb⟩).c)).toNat), .int .u64 ((Wd.lo ((Hf.step ⟨dc, k0, k1, hb⟩).c)).toNat), .int .u32 (((Hf.step ⟨dc, k0, k1, hb⟩).k0).toNat), .int .u32 (((Hf.step ⟨dc, k0, k1, hb⟩).k1).toNat), .bool ((Hf.step ⟨dc, k0, k1, hb⟩).b)]), some (.agg #[.int .u64 ((Wd.hi dc).toNat), .int .u64 ((Wd.lo dc).toNat), .int .u32 k0.toNat, .int .u32 k1.toNat, .bool hb]), some (.agg #[.int .u64 ((Wd.hi dc).toNat), .int .u64 ((Wd.lo dc).toNat), .int .u32 k0.toNat, .int .u32 k1.toNat, .bool hb]), some (.agg #[.int .u64 ((Wd.hi ((Hf.step ⟨dc, k0, k1, hb⟩).c)).toNat), .int .u64 ((Wd.lo ((Hf.step ⟨dc, k0, k1, hb⟩).c)).toNat), .int .u32 (((Hf.step ⟨dc, k0, k1, hb⟩).k0).toNat), .int .u32 (((Hf.step ⟨dc, k0, k1, hb⟩).k1).toNat), .bool ((Hf.step ⟨dc, k0, k1, hb⟩).b)]), some (.bool true), some (.bool true), some (.bool true), some (.agg #[.int .u64 ((Wd.hi dc).toNat), .int .u64 ((Wd.lo dc).toNat), .int .u32 k0.toNat, .int .u32 k1.toNat, .bool hb]), some (.agg #[.int .u64 ((Wd.hi x).toNat), .int .u64 ((Wd.lo x).toNat)]), some (.agg #[.int .u64 ((Wd.hi ((Hf.jump ⟨dc, k0, k1, hb⟩ x).c)).toNat), .int .u64 ((Wd.lo ((Hf.jump ⟨dc, k0, k1, hb⟩ x).c)).toNat), .int .u32 (((Hf.jump ⟨dc, k0, k1, hb⟩ x).k0).toNat), .int .u32 (((Hf.jump ⟨dc, k0, k1, hb⟩ x).k1).toNat), .bool ((Hf.jump ⟨dc, k0, k1, hb⟩ x).b)]), some (.agg #[.int .u64 ((Wd.hi ((Hf.jump ⟨dc, k0, k1, hb⟩ x).c)).toNat), .int .u64 ((Wd.lo ((Hf.jump ⟨dc, k0, k1, hb⟩ x).c)).toNat), .int .u32 (((Hf.jump ⟨dc, k0, k1, hb⟩ x).k0).toNat), .int .u32 (((Hf.jump ⟨dc, k0, k1, hb⟩ x).k1).toNat), .bool ((Hf.jump ⟨dc, k0, k1, hb⟩ x).b)]), some (.agg #[.int .u64 ((Wd.hi dc).toNat), .int .u64 ((Wd.lo dc).toNat), .int .u32 k0.toNat, .int .u32 k1.toNat, .bool hb]), some (.agg #[.int .u64 ((Wd.hi dc).toNat), .int .u64 ((Wd.lo dc).toNat), .int .u32 k0.toNat, .int .u32 k1.toNat, .bool hb]), some (.agg #[.int .u64 ((Wd.hi x).toNat), .int .u64 ((Wd.lo x).toNat)]), some (.agg #[.int .u64 ((Wd.hi ((Hf.jump ⟨dc, k0, k1, hb⟩ x).c)).toNat), .int .u64 ((Wd.lo ((Hf.jump ⟨dc, k0, k1, hb⟩ x).c)).toNat), .int .u32 (((Hf.jump ⟨dc, k0, k1, hb⟩ x).k0).toNat), .int .u32 (((Hf.jump ⟨dc, k0, k1, hb⟩ x).k1).toNat), .bool ((Hf.jump ⟨dc, k0, k1, hb⟩ x).b)]), some (.bool true), some (.bool true), some (.bool true), some (.pointer (some ⟨g1, 0, none⟩)), some (.agg #[.int .u64 ((Wd.hi dc).toNat), .int .u64 ((Wd.lo dc).toNat)]), some (.agg #[.int .u32 ((Hf.low (Wd.lo dc)).toNat), .int .u32 ((Hf.top (Wd.lo dc)).toNat), .int .u32 ((Hf.low (Wd.hi dc)).toNat), .int .u32 ((Hf.top (Wd.hi dc)).toNat)]), some (.pointer (some ⟨g1, 0, none⟩)), some (.agg #[.int .u64 ((Wd.hi dc).toNat), .int .u64 ((Wd.lo dc).toNat)]), some (.agg #[.int .u32 ((Hf.low (Wd.lo dc)).toNat), .int .u32 ((Hf.top (Wd.lo dc)).toNat), .int .u32 ((Hf.low (Wd.hi dc)).toNat), .int .u32 ((Hf.top (Wd.hi dc)).toNat)]), some (.bool true), some (.bool true), some (.bool true)] (fun L A w => Sx.Own w0 w [(true, g3, [.int .u64 ((Wd.hi 0#128).toNat), .int .u64 ((Wd.lo 0#128).toNat), .int .u32 0, .int .u32 0, .bool false]), (true, g2, [.int .u64 ((Wd.hi x).toNat), .int .u64 ((Wd.lo x).toNat)]), (true, g1, [.int .u64 ((Wd.hi dc).toNat), .int .u64 ((Wd.lo dc).toNat), .int .u32 k0.toNat, .int .u32 k1.toNat, .bool hb])] [⟨true, .slice none 0 0, 22, 1, 0, []⟩]) H.drew ?_ ?_
  · refine ⟨?_, ?_, ?_, ?_, ?_, ?_, ?_, ?_, ?_, ?_, ?_, ?_, ?_, ?_, ?_, ?_, ?_, ?_, ?_, ?_, ?_, ?_, ?_, ?_, ?_, ?_, ?_, ?_, ?_, ?_, ?_, ?_, ?_, ?_, ?_, ?_, trivial⟩
    · show Sx.StepAt _ _ _ _ _ _ _ 0
      intro L A w up hun hd F H
      have F := Sx.Fr.to F (kv' := [(3, .pointer (some ⟨g1, 0, none⟩))]) ⟨rfl, trivial⟩
      refine Sx.step_on rfl (Sx.d_load (i := 2) (xs := [.int .u64 ((Wd.hi dc).toNat), .int .u64 ((Wd.lo dc).toNat), .int .u32 k0.toNat, .int .u32 k1.toNat, .bool hb]) rw_82 F H rfl rfl rfl rfl rfl) ?_
      rintro xv w' ⟨hx, rfl⟩
      exact ⟨(fun cv hc => hx.trans (Option.some.inj (Option.some.inj hc))), H⟩
    · show Sx.StepAt _ _ _ _ _ _ _ 1
      intro L A w up hun hd F H
      have F := Sx.Fr.to F (kv' := [(67, .agg #[.int .u64 ((Wd.hi dc).toNat), .int .u64 ((Wd.lo dc).toNat), .int .u32 k0.toNat, .int .u32 k1.toNat, .bool hb])]) ⟨rfl, trivial⟩
      refine Sx.step_on rfl (Sx.d_call (vs := [.agg #[.int .u64 ((Wd.hi dc).toNat), .int .u64 ((Wd.lo dc).toNat), .int .u32 k0.toNat, .int .u32 k1.toNat, .bool hb]]) (v := .int .u64 ((Hf.word ⟨dc, k0, k1, hb⟩).toNat)) if_50 F H rfl rfl (hword_c dc k0 k1 hb _)) ?_
      rintro xv w' ⟨hx, H⟩
      exact ⟨(fun cv hc => hx.trans (Option.some.inj (Option.some.inj hc))), H⟩
    · show Sx.StepAt _ _ _ _ _ _ _ 2
      intro L A w up hun hd F H
      have F := Sx.Fr.to F (kv' := [(3, .pointer (some ⟨g1, 0, none⟩))]) ⟨rfl, trivial⟩
      refine Sx.step_on rfl (Sx.d_load (i := 2) (xs := [.int .u64 ((Wd.hi dc).toNat), .int .u64 ((Wd.lo dc).toNat), .int .u32 k0.toNat, .int .u32 k1.toNat, .bool hb]) rw_82 F H rfl rfl rfl rfl rfl) ?_
      rintro xv w' ⟨hx, rfl⟩
      exact ⟨(fun cv hc => hx.trans (Option.some.inj (Option.some.inj hc))), H⟩
    · show Sx.StepAt _ _ _ _ _ _ _ 3
      intro L A w up hun hd F H
      have F := Sx.Fr.to F (kv' := [(69, .agg #[.int .u64 ((Wd.hi dc).toNat), .int .u64 ((Wd.lo dc).toNat), .int .u32 k0.toNat, .int .u32 k1.toNat, .bool hb])]) ⟨rfl, trivial⟩
      refine Sx.step_on rfl (Sx.d_call (vs := [.agg #[.int .u64 ((Wd.hi dc).toNat), .int .u64 ((Wd.lo dc).toNat), .int .u32 k0.toNat, .int .u32 k1.toNat, .bool hb]]) (v := .agg #[.int .u64 ((Wd.hi dc).toNat), .int .u64 ((Wd.lo dc).toNat), .int .u32 k0.toNat, .int .u32 k1.toNat, .bool hb]) if_47 F H rfl rfl (own12_c dc k0 k1 hb _)) ?_
      rintro xv w' ⟨hx, H⟩
      exact ⟨(fun cv hc => hx.trans (Option.some.inj (Option.some.inj hc))), H⟩
    · show Sx.StepAt _ _ _ _ _ _ _ 4
      intro L A w up hun hd F H
      have F := Sx.Fr.to F (kv' := [(70, .agg #[.int .u64 ((Wd.hi dc).toNat), .int .u64 ((Wd.lo dc).toNat), .int .u32 k0.toNat, .int .u32 k1.toNat, .bool hb])]) ⟨rfl, trivial⟩
      refine Sx.step_on rfl (Sx.d_call (vs := [.agg #[.int .u64 ((Wd.hi dc).toNat), .int .u64 ((Wd.lo dc).toNat), .int .u32 k0.toNat, .int .u32 k1.toNat, .bool hb]]) (v := .int .u64 ((Hf.word ⟨dc, k0, k1, hb⟩).toNat)) if_48 F H rfl rfl (rword12_c dc k0 k1 hb _)) ?_
      rintro xv w' ⟨hx, H⟩
      exact ⟨(fun cv hc => hx.trans (Option.some.inj (Option.some.inj hc))), H⟩
    · show Sx.StepAt _ _ _ _ _ _ _ 5
      intro L A w up hun hd F H
      have F := Sx.Fr.to F (kv' := [(68, .int .u64 ((Hf.word ⟨dc, k0, k1, hb⟩).toNat)), (71, .int .u64 ((Hf.word ⟨dc, k0, k1, hb⟩).toNat))]) ⟨rfl, rfl, trivial⟩
      refine Sx.step_on rfl (Sx.d_bin (v := .bool true) F rfl rfl rfl (Sx.i_eq (by simp))) ?_
      rintro xv w' ⟨hx, rfl⟩
      exact ⟨(fun cv hc => hx.trans (Option.some.inj (Option.some.inj hc))), H⟩
    · show Sx.StepAt _ _ _ _ _ _ _ 6
      intro L A w up hun hd F H
      have F := Sx.Fr.to F (kv' := [(72, .bool true)]) ⟨rfl, trivial⟩
      refine Sx.step_on rfl (Sx.d_move F (Or.inl rfl) rfl) ?_
      rintro xv w' ⟨hx, rfl⟩
      exact ⟨(fun cv hc => hx.trans (Option.some.inj (Option.some.inj hc))), H⟩
    · show Sx.StepAt _ _ _ _ _ _ _ 7
      intro L A w up hun hd F H
      have F := Sx.Fr.to F (kv' := [(3, .pointer (some ⟨g1, 0, none⟩)), (73, .bool true)]) ⟨rfl, rfl, trivial⟩
      refine Sx.step_ong rfl (Sx.guard_known (d := 73) (b := true) F rfl rfl) rfl (Sx.d_load (i := 2) (xs := [.int .u64 ((Wd.hi dc).toNat), .int .u64 ((Wd.lo dc).toNat), .int .u32 k0.toNat, .int .u32 k1.toNat, .bool hb]) rw_82 F H rfl rfl rfl rfl rfl) ?_
      rintro xv w' ⟨hx, rfl⟩
      exact ⟨(fun cv hc => hx.trans (Option.some.inj (Option.some.inj hc))), H⟩
    · show Sx.StepAt _ _ _ _ _ _ _ 8
      intro L A w up hun hd F H
      have F := Sx.Fr.to F (kv' := [(74, .agg #[.int .u64 ((Wd.hi dc).toNat), .int .u64 ((Wd.lo dc).toNat), .int .u32 k0.toNat, .int .u32 k1.toNat, .bool hb]), (73, .bool true)]) ⟨rfl, rfl, trivial⟩
      refine Sx.step_ong rfl (Sx.guard_known (d := 73) (b := true) F rfl rfl) rfl (Sx.d_call (vs := [.agg #[.int .u64 ((Wd.hi dc).toNat), .int .u64 ((Wd.lo dc).toNat), .int .u32 k0.toNat, .int .u32 k1.toNat, .bool hb]]) (v := .agg #[.int .u64 ((Wd.hi ((Hf.step ⟨dc, k0, k1, hb⟩).c)).toNat), .int .u64 ((Wd.lo ((Hf.step ⟨dc, k0, k1, hb⟩).c)).toNat), .int .u32 (((Hf.step ⟨dc, k0, k1, hb⟩).k0).toNat), .int .u32 (((Hf.step ⟨dc, k0, k1, hb⟩).k1).toNat), .bool ((Hf.step ⟨dc, k0, k1, hb⟩).b)]) if_51 F H rfl rfl (hstep_c dc k0 k1 hb _)) ?_
      rintro xv w' ⟨hx, H⟩
      exact ⟨(fun cv hc => hx.trans (Option.some.inj (Option.some.inj hc))), H⟩
    · show Sx.StepAt _ _ _ _ _ _ _ 9
      intro L A w up hun hd F H
      have F := Sx.Fr.to F (kv' := [(75, .agg #[.int .u64 ((Wd.hi ((Hf.step ⟨dc, k0, k1, hb⟩).c)).toNat), .int .u64 ((Wd.lo ((Hf.step ⟨dc, k0, k1, hb⟩).c)).toNat), .int .u32 (((Hf.step ⟨dc, k0, k1, hb⟩).k0).toNat), .int .u32 (((Hf.step ⟨dc, k0, k1, hb⟩).k1).toNat), .bool ((Hf.step ⟨dc, k0, k1, hb⟩).b)]), (73, .bool true)]) ⟨rfl, rfl, trivial⟩
      refine Sx.step_ong rfl (Sx.guard_known (d := 73) (b := true) F rfl rfl) rfl (Sx.d_call (vs := [.agg #[.int .u64 ((Wd.hi ((Hf.step ⟨dc, k0, k1, hb⟩).c)).toNat), .int .u64 ((Wd.lo ((Hf.step ⟨dc, k0, k1, hb⟩).c)).toNat), .int .u32 (((Hf.step ⟨dc, k0, k1, hb⟩).k0).toNat), .int .u32 (((Hf.step ⟨dc, k0, k1, hb⟩).k1).toNat), .bool ((Hf.step ⟨dc, k0, k1, hb⟩).b)]]) (v := .agg #[.int .u64 ((Wd.hi ((Hf.step ⟨dc, k0, k1, hb⟩).c)).toNat), .int .u64 ((Wd.lo ((Hf.step ⟨dc, k0, k1, hb⟩).c)).toNat), .int .u32 (((Hf.step ⟨dc, k0, k1, hb⟩).k0).toNat), .int .u32 (((Hf.step ⟨dc, k0, k1, hb⟩).k1).toNat), .bool ((Hf.step ⟨dc, k0, k1, hb⟩).b)]) if_47 F H rfl rfl (own12_c ((Hf.step ⟨dc, k0, k1, hb⟩).c) ((Hf.step ⟨dc, k0, k1, hb⟩).k0) ((Hf.step ⟨dc, k0, k1, hb⟩).k1) ((Hf.step ⟨dc, k0, k1, hb⟩).b) _)) ?_
      rintro xv w' ⟨hx, H⟩
      exact ⟨(fun cv hc => hx.trans (Option.some.inj (Option.some.inj hc))), H⟩
    · show Sx.StepAt _ _ _ _ _ _ _ 10
      intro L A w up hun hd F H
      have F := Sx.Fr.to F (kv' := [(3, .pointer (some ⟨g1, 0, none⟩)), (73, .bool true)]) ⟨rfl, rfl, trivial⟩
      refine Sx.step_ong rfl (Sx.guard_known (d := 73) (b := true) F rfl rfl) rfl (Sx.d_load (i := 2) (xs := [.int .u64 ((Wd.hi dc).toNat), .int .u64 ((Wd.lo dc).toNat), .int .u32 k0.toNat, .int .u32 k1.toNat, .bool hb]) rw_82 F H rfl rfl rfl rfl rfl) ?_
      rintro xv w' ⟨hx, rfl⟩
      exact ⟨(fun cv hc => hx.trans (Option.some.inj (Option.some.inj hc))), H⟩
    · show Sx.StepAt _ _ _ _ _ _ _ 11
      intro L A w up hun hd F H
      have F := Sx.Fr.to F (kv' := [(77, .agg #[.int .u64 ((Wd.hi dc).toNat), .int .u64 ((Wd.lo dc).toNat), .int .u32 k0.toNat, .int .u32 k1.toNat, .bool hb]), (73, .bool true)]) ⟨rfl, rfl, trivial⟩
      refine Sx.step_ong rfl (Sx.guard_known (d := 73) (b := true) F rfl rfl) rfl (Sx.d_call (vs := [.agg #[.int .u64 ((Wd.hi dc).toNat), .int .u64 ((Wd.lo dc).toNat), .int .u32 k0.toNat, .int .u32 k1.toNat, .bool hb]]) (v := .agg #[.int .u64 ((Wd.hi dc).toNat), .int .u64 ((Wd.lo dc).toNat), .int .u32 k0.toNat, .int .u32 k1.toNat, .bool hb]) if_47 F H rfl rfl (own12_c dc k0 k1 hb _)) ?_
      rintro xv w' ⟨hx, H⟩
      exact ⟨(fun cv hc => hx.trans (Option.some.inj (Option.some.inj hc))), H⟩
    · show Sx.StepAt _ _ _ _ _ _ _ 12
      intro L A w up hun hd F H
      have F := Sx.Fr.to F (kv' := [(78, .agg #[.int .u64 ((Wd.hi dc).toNat), .int .u64 ((Wd.lo dc).toNat), .int .u32 k0.toNat, .int .u32 k1.toNat, .bool hb]), (73, .bool true)]) ⟨rfl, rfl, trivial⟩
      refine Sx.step_ong rfl (Sx.guard_known (d := 73) (b := true) F rfl rfl) rfl (Sx.d_call (vs := [.agg #[.int .u64 ((Wd.hi dc).toNat), .int .u64 ((Wd.lo dc).toNat), .int .u32 k0.toNat, .int .u32 k1.toNat, .bool hb]]) (v := .agg #[.int .u64 ((Wd.hi ((Hf.step ⟨dc, k0, k1, hb⟩).c)).toNat), .int .u64 ((Wd.lo ((Hf.step ⟨dc, k0, k1, hb⟩).c)).toNat), .int .u32 (((Hf.step ⟨dc, k0, k1, hb⟩).k0).toNat), .int .u32 (((Hf.step ⟨dc, k0, k1, hb⟩).k1).toNat), .bool ((Hf.step ⟨dc, k0, k1, hb⟩).b)]) if_49 F H rfl rfl (rstep12_c dc k0 k1 hb _)) ?_
      rintro xv w' ⟨hx, H⟩
      exact ⟨(fun cv hc => hx.trans (Option.some.inj (Option.some.inj hc))), H⟩
    · show Sx.StepAt _ _ _ _ _ _ _ 13
      intro L A w up hun hd F H
      have F := Sx.Fr.to F (kv' := [(76, .agg #[.int .u64 ((Wd.hi ((Hf.step ⟨dc, k0, k1, hb⟩).c)).toNat), .int .u64 ((Wd.lo ((Hf.step ⟨dc, k0, k1, hb⟩).c)).toNat), .int .u32 (((Hf.step ⟨dc, k0, k1, hb⟩).k0).toNat), .int .u32 (((Hf.step ⟨dc, k0, k1, hb⟩).k1).toNat), .bool ((Hf.step ⟨dc, k0, k1, hb⟩).b)]), (79, .agg #[.int .u64 ((Wd.hi ((Hf.step ⟨dc, k0, k1, hb⟩).c)).toNat), .int .u64 ((Wd.lo ((Hf.step ⟨dc, k0, k1, hb⟩).c)).toNat), .int .u32 (((Hf.step ⟨dc, k0, k1, hb⟩).k0).toNat), .int .u32 (((Hf.step ⟨dc, k0, k1, hb⟩).k1).toNat), .bool ((Hf.step ⟨dc, k0, k1, hb⟩).b)]), (73, .bool true)]) ⟨rfl, rfl, rfl, trivial⟩
      refine Sx.step_ong rfl (Sx.guard_known (d := 73) (b := true) F rfl rfl) rfl (Sx.d_bin (v := .bool true) F rfl rfl rfl (Sx.i_eqG (decide_eq_true ⟨rfl, rfl, rfl, rfl⟩))) ?_
      rintro xv w' ⟨hx, rfl⟩
      exact ⟨(fun cv hc => hx.trans (Option.some.inj (Option.some.inj hc))), H⟩
    · show Sx.StepAt _ _ _ _ _ _ _ 14
      intro L A w up hun hd F H
      have F := Sx.Fr.to F (kv' := [(73, .bool true), (80, .bool true)]) ⟨rfl, rfl, trivial⟩
      refine Sx.step_on rfl (Sx.d_pickT (v := .bool true) F rfl rfl rfl) ?_
      rintro xv w' ⟨hx, rfl⟩
      exact ⟨(fun cv hc => hx.trans (Option.some.inj (Option.some.inj hc))), H⟩
    · show Sx.StepAt _ _ _ _ _ _ _ 15
      intro L A w up hun hd F H
      have F := Sx.Fr.to F (kv' := [(81, .bool true)]) ⟨rfl, trivial⟩
      refine Sx.step_on rfl (Sx.d_move F (Or.inl rfl) rfl) ?_
      rintro xv w' ⟨hx, rfl⟩
      exact ⟨(fun cv hc => hx.trans (Option.some.inj (Option.some.inj hc))), H⟩
    · show Sx.StepAt _ _ _ _ _ _ _ 16
      intro L A w up hun hd F H
      have F := Sx.Fr.to F (kv' := [(3, .pointer (some ⟨g1, 0, none⟩)), (82, .bool true)]) ⟨rfl, rfl, trivial⟩
      refine Sx.step_ong rfl (Sx.guard_known (d := 82) (b := true) F rfl rfl) rfl (Sx.d_load (i := 2) (xs := [.int .u64 ((Wd.hi dc).toNat), .int .u64 ((Wd.lo dc).toNat), .int .u32 k0.toNat, .int .u32 k1.toNat, .bool hb]) rw_82 F H rfl rfl rfl rfl rfl) ?_
      rintro xv w' ⟨hx, rfl⟩
      exact ⟨(fun cv hc => hx.trans (Option.some.inj (Option.some.inj hc))), H⟩
    · show Sx.StepAt _ _ _ _ _ _ _ 17
      intro L A w up hun hd F H
      have F := Sx.Fr.to F (kv' := [(5, .pointer (some ⟨g2, 0, none⟩)), (82, .bool true)]) ⟨rfl, rfl, trivial⟩
      refine Sx.step_ong rfl (Sx.guard_known (d := 82) (b := true) F rfl rfl) rfl (Sx.d_load (i := 1) (xs := [.int .u64 ((Wd.hi x).toNat), .int .u64 ((Wd.lo x).toNat)]) rw_24 F H rfl rfl rfl rfl rfl) ?_
      rintro xv w' ⟨hx, rfl⟩
      exact ⟨(fun cv hc => hx.trans (Option.some.inj (Option.some.inj hc))), H⟩
    · show Sx.StepAt _ _ _ _ _ _ _ 18
      intro L A w up hun hd F H
      have F := Sx.Fr.to F (kv' := [(83, .agg #[.int .u64 ((Wd.hi dc).toNat), .int .u64 ((Wd.lo dc).toNat), .int .u32 k0.toNat, .int .u32 k1.toNat, .bool hb]), (84, .agg #[.int .u64 ((Wd.hi x).toNat), .int .u64 ((Wd.lo x).toNat)]), (82, .bool true)]) ⟨rfl, rfl, rfl, trivial⟩
      refine Sx.step_ong rfl (Sx.guard_known (d := 82) (b := true) F rfl rfl) rfl (Sx.d_call (vs := [.agg #[.int .u64 ((Wd.hi dc).toNat), .int .u64 ((Wd.lo dc).toNat), .int .u32 k0.toNat, .int .u32 k1.toNat, .bool hb], .agg #[.int .u64 ((Wd.hi x).toNat), .int .u64 ((Wd.lo x).toNat)]]) (v := .agg #[.int .u64 ((Wd.hi ((Hf.jump ⟨dc, k0, k1, hb⟩ x).c)).toNat), .int .u64 ((Wd.lo ((Hf.jump ⟨dc, k0, k1, hb⟩ x).c)).toNat), .int .u32 (((Hf.jump ⟨dc, k0, k1, hb⟩ x).k0).toNat), .int .u32 (((Hf.jump ⟨dc, k0, k1, hb⟩ x).k1).toNat), .bool ((Hf.jump ⟨dc, k0, k1, hb⟩ x).b)]) if_52 F H rfl rfl (hjump_c dc k0 k1 hb x _)) ?_
      rintro xv w' ⟨hx, H⟩
      exact ⟨(fun cv hc => hx.trans (Option.some.inj (Option.some.inj hc))), H⟩
    · show Sx.StepAt _ _ _ _ _ _ _ 19
      intro L A w up hun hd F H
      have F := Sx.Fr.to F (kv' := [(85, .agg #[.int .u64 ((Wd.hi ((Hf.jump ⟨dc, k0, k1, hb⟩ x).c)).toNat), .int .u64 ((Wd.lo ((Hf.jump ⟨dc, k0, k1, hb⟩ x).c)).toNat), .int .u32 (((Hf.jump ⟨dc, k0, k1, hb⟩ x).k0).toNat), .int .u32 (((Hf.jump ⟨dc, k0, k1, hb⟩ x).k1).toNat), .bool ((Hf.jump ⟨dc, k0, k1, hb⟩ x).b)]), (82, .bool true)]) ⟨rfl, rfl, trivial⟩
      refine Sx.step_ong rfl (Sx.guard_known (d := 82) (b := true) F rfl rfl) rfl (Sx.d_call (vs := [.agg #[.int .u64 ((Wd.hi ((Hf.jump ⟨dc, k0, k1, hb⟩ x).c)).toNat), .int .u64 ((Wd.lo ((Hf.jump ⟨dc, k0, k1, hb⟩ x).c)).toNat), .int .u32 (((Hf.jump ⟨dc, k0, k1, hb⟩ x).k0).toNat), .int .u32 (((Hf.jump ⟨dc, k0, k1, hb⟩ x).k1).toNat), .bool ((Hf.jump ⟨dc, k0, k1, hb⟩ x).b)]]) (v := .agg #[.int .u64 ((Wd.hi ((Hf.jump ⟨dc, k0, k1, hb⟩ x).c)).toNat), .int .u64 ((Wd.lo ((Hf.jump ⟨dc, k0, k1, hb⟩ x).c)).toNat), .int .u32 (((Hf.jump ⟨dc, k0, k1, hb⟩ x).k0).toNat), .int .u32 (((Hf.jump ⟨dc, k0, k1, hb⟩ x).k1).toNat), .bool ((Hf.jump ⟨dc, k0, k1, hb⟩ x).b)]) if_47 F H rfl rfl (own12_c ((Hf.jump ⟨dc, k0, k1, hb⟩ x).c) ((Hf.jump ⟨dc, k0, k1, hb⟩ x).k0) ((Hf.jump ⟨dc, k0, k1, hb⟩ x).k1) ((Hf.jump ⟨dc, k0, k1, hb⟩ x).b) _)) ?_
      rintro xv w' ⟨hx, H⟩
      exact ⟨(fun cv hc => hx.trans (Option.some.inj (Option.some.inj hc))), H⟩
    · show Sx.StepAt _ _ _ _ _ _ _ 20
      intro L A w up hun hd F H
      have F := Sx.Fr.to F (kv' := [(3, .pointer (some ⟨g1, 0, none⟩)), (82, .bool true)]) ⟨rfl, rfl, trivial⟩
      refine Sx.step_ong rfl (Sx.guard_known (d := 82) (b := true) F rfl rfl) rfl (Sx.d_load (i := 2) (xs := [.int .u64 ((Wd.hi dc).toNat), .int .u64 ((Wd.lo dc).toNat), .int .u32 k0.toNat, .int .u32 k1.toNat, .bool hb]) rw_82 F H rfl rfl rfl rfl rfl) ?_
      rintro xv w' ⟨hx, rfl⟩
      exact ⟨(fun cv hc => hx.trans (Option.some.inj (Option.some.inj hc))), H⟩
    · show Sx.StepAt _ _ _ _ _ _ _ 21
      intro L A w up hun hd F H
      have F := Sx.Fr.to F (kv' := [(87, .agg #[.int .u64 ((Wd.hi dc).toNat), .int .u64 ((Wd.lo dc).toNat), .int .u32 k0.toNat, .int .u32 k1.toNat, .bool hb]), (82, .bool true)]) ⟨rfl, rfl, trivial⟩
      refine Sx.step_ong rfl (Sx.guard_known (d := 82) (b := true) F rfl rfl) rfl (Sx.d_call (vs := [.agg #[.int .u64 ((Wd.hi dc).toNat), .int .u64 ((Wd.lo dc).toNat), .int .u32 k0.toNat, .int .u32 k1.toNat, .bool hb]]) (v := .agg #[.int .u64 ((Wd.hi dc).toNat), .int .u64 ((Wd.lo dc).toNat), .int .u32 k0.toNat, .int .u32 k1.toNat, .bool hb]) if_47 F H rfl rfl (own12_c dc k0 k1 hb _)) ?_
      rintro xv w' ⟨hx, H⟩
      exact ⟨(fun cv hc => hx.trans (Option.some.inj (Option.some.inj hc))), H⟩
    · show Sx.StepAt _ _ _ _ _ _ _ 22
      intro L A w up hun hd F H
      have F := Sx.Fr.to F (kv' := [(5, .pointer (some ⟨g2, 0, none⟩)), (82, .bool true)]) ⟨rfl, rfl, trivial⟩
      refine Sx.step_ong rfl (Sx.guard_known (d := 82) (b := true) F rfl rfl) rfl (Sx.d_load (i := 1) (xs := [.int .u64 ((Wd.hi x).toNat), .int .u64 ((Wd.lo x).toNat)]) rw_24 F H rfl rfl rfl rfl rfl) ?_
      rintro xv w' ⟨hx, rfl⟩
      exact ⟨(fun cv hc => hx.trans (Option.some.inj (Option.some.inj hc))), H⟩
    · show Sx.StepAt _ _ _ _ _ _ _ 23
      intro L A w up hun hd F H
      have F := Sx.Fr.to F (kv' := [(88, .agg #[.int .u64 ((Wd.hi dc).toNat), .int .u64 ((Wd.lo dc).toNat), .int .u32 k0.toNat, .int .u32 k1.toNat, .bool hb]), (89, .agg #[.int .u64 ((Wd.hi x).toNat), .int .u64 ((Wd.lo x).toNat)]), (82, .bool true)]) ⟨rfl, rfl, rfl, trivial⟩
      refine Sx.step_ong rfl (Sx.guard_known (d := 82) (b := true) F rfl rfl) rfl (Sx.d_call (vs := [.agg #[.int .u64 ((Wd.hi dc).toNat), .int .u64 ((Wd.lo dc).toNat), .int .u32 k0.toNat, .int .u32 k1.toNat, .bool hb], .agg #[.int .u64 ((Wd.hi x).toNat), .int .u64 ((Wd.lo x).toNat)]]) (v := .agg #[.int .u64 ((Wd.hi ((Hf.jump ⟨dc, k0, k1, hb⟩ x).c)).toNat), .int .u64 ((Wd.lo ((Hf.jump ⟨dc, k0, k1, hb⟩ x).c)).toNat), .int .u32 (((Hf.jump ⟨dc, k0, k1, hb⟩ x).k0).toNat), .int .u32 (((Hf.jump ⟨dc, k0, k1, hb⟩ x).k1).toNat), .bool ((Hf.jump ⟨dc, k0, k1, hb⟩ x).b)]) if_53 F H rfl rfl (rfar12_c dc k0 k1 hb x _)) ?_
      rintro xv w' ⟨hx, H⟩
      exact ⟨(fun cv hc => hx.trans (Option.some.inj (Option.some.inj hc))), H⟩
    · show Sx.StepAt _ _ _ _ _ _ _ 24
      intro L A w up hun hd F H
      have F := Sx.Fr.to F (kv' := [(86, .agg #[.int .u64 ((Wd.hi ((Hf.jump ⟨dc, k0, k1, hb⟩ x).c)).toNat), .int .u64 ((Wd.lo ((Hf.jump ⟨dc, k0, k1, hb⟩ x).c)).toNat), .int .u32 (((Hf.jump ⟨dc, k0, k1, hb⟩ x).k0).toNat), .int .u32 (((Hf.jump ⟨dc, k0, k1, hb⟩ x).k1).toNat), .bool ((Hf.jump ⟨dc, k0, k1, hb⟩ x).b)]), (90, .agg #[.int .u64 ((Wd.hi ((Hf.jump ⟨dc, k0, k1, hb⟩ x).c)).toNat), .int .u64 ((Wd.lo ((Hf.jump ⟨dc, k0, k1, hb⟩ x).c)).toNat), .int .u32 (((Hf.jump ⟨dc, k0, k1, hb⟩ x).k0).toNat), .int .u32 (((Hf.jump ⟨dc, k0, k1, hb⟩ x).k1).toNat), .bool ((Hf.jump ⟨dc, k0, k1, hb⟩ x).b)]), (82, .bool true)]) ⟨rfl, rfl, rfl, trivial⟩
      refine Sx.step_ong rfl (Sx.guard_known (d := 82) (b := true) F rfl rfl) rfl (Sx.d_bin (v := .bool true) F rfl rfl rfl (Sx.i_eqG (decide_eq_true ⟨rfl, rfl, rfl, rfl⟩))) ?_
      rintro xv w' ⟨hx, rfl⟩
      exact ⟨(fun cv hc => hx.trans (Option.some.inj (Option.some.inj hc))), H⟩
    · show Sx.StepAt _ _ _ _ _ _ _ 25
      intro L A w up hun hd F H
      have F := Sx.Fr.to F (kv' := [(82, .bool true), (91, .bool true)]) ⟨rfl, rfl, trivial⟩
      refine Sx.step_on rfl (Sx.d_pickT (v := .bool true) F rfl rfl rfl) ?_
      rintro xv w' ⟨hx, rfl⟩
      exact ⟨(fun cv hc => hx.trans (Option.some.inj (Option.some.inj hc))), H⟩
    · show Sx.StepAt _ _ _ _ _ _ _ 26
      intro L A w up hun hd F H
      have F := Sx.Fr.to F (kv' := [(92, .bool true)]) ⟨rfl, trivial⟩
      refine Sx.step_on rfl (Sx.d_move F (Or.inl rfl) rfl) ?_
      rintro xv w' ⟨hx, rfl⟩
      exact ⟨(fun cv hc => hx.trans (Option.some.inj (Option.some.inj hc))), H⟩
    · show Sx.StepAt _ _ _ _ _ _ _ 27
      intro L A w up hun hd F H
      have F := Sx.Fr.to F (kv' := [(3, .pointer (some ⟨g1, 0, none⟩)), (93, .bool true)]) ⟨rfl, rfl, trivial⟩
      refine Sx.step_ong rfl (Sx.guard_known (d := 93) (b := true) F rfl rfl) rfl (Sx.d_faddr (v := .pointer (some ⟨g1, 0, none⟩)) F rfl rfl (fa_82_0 _ 0 _)) ?_
      rintro xv w' ⟨hx, rfl⟩
      exact ⟨(fun cv hc => hx.trans (Option.some.inj (Option.some.inj hc))), H⟩
    · show Sx.StepAt _ _ _ _ _ _ _ 28
      intro L A w up hun hd F H
      have F := Sx.Fr.to F (kv' := [(94, .pointer (some ⟨g1, 0, none⟩)), (93, .bool true)]) ⟨rfl, rfl, trivial⟩
      refine Sx.step_ong rfl (Sx.guard_known (d := 93) (b := true) F rfl rfl) rfl (Sx.d_load (i := 2) (xs := [.int .u64 ((Wd.hi dc).toNat), .int .u64 ((Wd.lo dc).toNat)]) rw_24 F H rfl rfl rfl rfl rfl) ?_
      rintro xv w' ⟨hx, rfl⟩
      exact ⟨(fun cv hc => hx.trans (Option.some.inj (Option.some.inj hc))), H⟩
    · show Sx.StepAt _ _ _ _ _ _ _ 29
      intro L A w up hun hd F H
      have F := Sx.Fr.to F (kv' := [(95, .agg #[.int .u64 ((Wd.hi dc).toNat), .int .u64 ((Wd.lo dc).toNat)]), (93, .bool true)]) ⟨rfl, rfl, trivial⟩
      refine Sx.step_ong rfl (Sx.guard_known (d := 93) (b := true) F rfl rfl) rfl (Sx.d_call (vs := [.agg #[.int .u64 ((Wd.hi dc).toNat), .int .u64 ((Wd.lo dc).toNat)]]) (v := .agg #[.int .u32 ((Hf.low (Wd.lo dc)).toNat), .int .u32 ((Hf.top (Wd.lo dc)).toNat), .int .u32 ((Hf.low (Wd.hi dc)).toNat), .int .u32 ((Hf.top (Wd.hi dc)).toNat)]) if_54 F H rfl rfl (hblock_c dc _)) ?_
      rintro xv w' ⟨hx, H⟩
      exact ⟨(fun cv hc => hx.trans (Option.some.inj (Option.some.inj hc))), H⟩
    · show Sx.StepAt _ _ _ _ _ _ _ 30
      intro L A w up hun hd F H
      have F := Sx.Fr.to F (kv' := [(3, .pointer (some ⟨g1, 0, none⟩)), (93, .bool true)]) ⟨rfl, rfl, trivial⟩
      refine Sx.step_ong rfl (Sx.guard_known (d := 93) (b := true) F rfl rfl) rfl (Sx.d_faddr (v := .pointer (some ⟨g1, 0, none⟩)) F rfl rfl (fa_82_0 _ 0 _)) ?_
      rintro xv w' ⟨hx, rfl⟩
      exact ⟨(fun cv hc => hx.trans (Option.some.inj (Option.some.inj hc))), H⟩
    · show Sx.StepAt _ _ _ _ _ _ _ 31
      intro L A w up hun hd F H
      have F := Sx.Fr.to F (kv' := [(97, .pointer (some ⟨g1, 0, none⟩)), (93, .bool true)]) ⟨rfl, rfl, trivial⟩
      refine Sx.step_ong rfl (Sx.guard_known (d := 93) (b := true) F rfl rfl) rfl (Sx.d_load (i := 2) (xs := [.int .u64 ((Wd.hi dc).toNat), .int .u64 ((Wd.lo dc).toNat)]) rw_24 F H rfl rfl rfl rfl rfl) ?_
      rintro xv w' ⟨hx, rfl⟩
      exact ⟨(fun cv hc => hx.trans (Option.some.inj (Option.some.inj hc))), H⟩
    · show Sx.StepAt _ _ _ _ _ _ _ 32
      intro L A w up hun hd F H
      have F := Sx.Fr.to F (kv' := [(98, .agg #[.int .u64 ((Wd.hi dc).toNat), .int .u64 ((Wd.lo dc).toNat)]), (93, .bool true)]) ⟨rfl, rfl, trivial⟩
      refine Sx.step_ong rfl (Sx.guard_known (d := 93) (b := true) F rfl rfl) rfl (Sx.d_call (vs := [.agg #[.int .u64 ((Wd.hi dc).toNat), .int .u64 ((Wd.lo dc).toNat)]]) (v := .agg #[.int .u32 ((Hf.low (Wd.lo dc)).toNat), .int .u32 ((Hf.top (Wd.lo dc)).toNat), .int .u32 ((Hf.low (Wd.hi dc)).toNat), .int .u32 ((Hf.top (Wd.hi dc)).toNat)]) if_55 F H rfl rfl (rblock12_c dc _)) ?_
      rintro xv w' ⟨hx, H⟩
      exact ⟨(fun cv hc => hx.trans (Option.some.inj (Option.some.inj hc))), H⟩
    · show Sx.StepAt _ _ _ _ _ _ _ 33
      intro L A w up hun hd F H
      have F := Sx.Fr.to F (kv' := [(96, .agg #[.int .u32 ((Hf.low (Wd.lo dc)).toNat), .int .u32 ((Hf.top (Wd.lo dc)).toNat), .int .u32 ((Hf.low (Wd.hi dc)).toNat), .int .u32 ((Hf.top (Wd.hi dc)).toNat)]), (99, .agg #[.int .u32 ((Hf.low (Wd.lo dc)).toNat), .int .u32 ((Hf.top (Wd.lo dc)).toNat), .int .u32 ((Hf.low (Wd.hi dc)).toNat), .int .u32 ((Hf.top (Wd.hi dc)).toNat)]), (93, .bool true)]) ⟨rfl, rfl, rfl, trivial⟩
      refine Sx.step_ong rfl (Sx.guard_known (d := 93) (b := true) F rfl rfl) rfl (Sx.d_bin (v := .bool true) F rfl rfl rfl Sx.i_eqB) ?_
      rintro xv w' ⟨hx, rfl⟩
      exact ⟨(fun cv hc => hx.trans (Option.some.inj (Option.some.inj hc))), H⟩
    · show Sx.StepAt _ _ _ _ _ _ _ 34
      intro L A w up hun hd F H
      have F := Sx.Fr.to F (kv' := [(93, .bool true), (100, .bool true)]) ⟨rfl, rfl, trivial⟩
      refine Sx.step_on rfl (Sx.d_pickT (v := .bool true) F rfl rfl rfl) ?_
      rintro xv w' ⟨hx, rfl⟩
      exact ⟨(fun cv hc => hx.trans (Option.some.inj (Option.some.inj hc))), H⟩
    · show Sx.StepAt _ _ _ _ _ _ _ 35
      intro L A w up hun hd F H
      have F := Sx.Fr.to F (kv' := [(101, .bool true)]) ⟨rfl, trivial⟩
      refine Sx.step_on rfl (Sx.d_move F (Or.inr rfl) rfl) ?_
      rintro xv w' ⟨hx, rfl⟩
      exact ⟨(fun cv hc => hx.trans (Option.some.inj (Option.some.inj hc))), H⟩
  · intro L A w hL F H
    have F := Sx.Fr.to F (kv' := [(0, .agg #[.int .u64 ((Wd.hi dc).toNat), .int .u64 ((Wd.lo dc).toNat), .int .u32 k0.toNat, .int .u32 k1.toNat, .bool hb]), (1, .int .i64 many), (2, .agg #[.int .u64 ((Wd.hi x).toNat), .int .u64 ((Wd.lo x).toNat)]), (3, .pointer (some ⟨g1, 0, none⟩)), (5, .pointer (some ⟨g2, 0, none⟩)), (12, .bool true), (13, .bool false), (15, .agg #[.int .u64 ((Wd.hi dc).toNat), .int .u64 ((Wd.lo dc).toNat), .int .u32 k0.toNat, .int .u32 k1.toNat, .bool hb]), (16, .int .i64 many), (17, .tuple #[.slice none 0 0, .agg #[.int .u64 ((Wd.hi 0#128).toNat), .int .u64 ((Wd.lo 0#128).toNat), .int .u32 0, .int .u32 0, .bool false], .int .i64 1]), (14, .tuple #[.slice none 0 0, .agg #[.int .u64 ((Wd.hi 0#128).toNat), .int .u64 ((Wd.lo 0#128).toNat), .int .u32 0, .int .u32 0, .bool false], .int .i64 1]), (18, .slice none 0 0), (19, .agg #[.int .u64 ((Wd.hi 0#128).toNat), .int .u64 ((Wd.lo 0#128).toNat), .int .u32 0, .int .u32 0, .bool false]), (20, .int .i64 1), (8, .pointer (some ⟨g3, 0, none⟩)), (7, .slice none 0 0), (9, .int .i64 1), (21, .int .i64 many), (22, .bool true), (23, .bool true), (26, .bool true), (27, .int .i64 1), (28, .bool false), (29, .bool false), (30, .slice none 0 0), (31, .int .i64 0), (32, .bool false), (33, .bool false), (34, .bool false), (35, .agg #[.int .u64 ((Wd.hi 0#128).toNat), .int .u64 ((Wd.lo 0#128).toNat), .int .u32 0, .int .u32 0, .bool false]), (36, .agg #[.int .u64 ((Wd.hi 0#128).toNat), .int .u64 ((Wd.lo 0#128).toNat), .int .u32 0, .int .u32 0, .bool false]), (37, .bool false), (38, .bool false), (6, .bool true)]) ⟨rfl, rfl, rfl, rfl, rfl, rfl, rfl, rfl, rfl, rfl, rfl, rfl, rfl, rfl, rfl, rfl, rfl, rfl, rfl, rfl, rfl, rfl, rfl, rfl, rfl, rfl, rfl, rfl, rfl, rfl, rfl, rfl, rfl, rfl, trivial⟩
    refine hK8 _ _ ?_
    refine wp_ret ?_
    try dsimp only [Exit.then, Exit.inBlock, Exit.jump]
    refine Sx.ret1 F Try.results12 (Sx.res_tmp (v := .bool true) F rfl) ⟨?_, H.below⟩
    rfl
set_option maxHeartbeats 4000000 in
set_option maxRecDepth 100000 in
theorem halfTells_hi (dc : BitVec 128) (k0 k1 : BitVec 32) (hb : Bool) (x : BitVec 128) (many : Int) (hy : 256 < many) (w0 : World) : Calls Try.prog 12 #[.agg #[.int .u64 ((Wd.hi dc).toNat), .int .u64 ((Wd.lo dc).toNat), .int .u32 k0.toNat, .int .u32 k1.toNat, .bool hb], .int .i64 many, .agg #[.int .u64 ((Wd.hi x).toNat), .int .u64 ((Wd.lo x).toNat)]] w0 fun e w' => e = .returned (.bool true) ∧ Below w0.heap.size w0 w' := by
  refine Sx.enter (args := [.agg #[.int .u64 ((Wd.hi dc).toNat), .int .u64 ((Wd.lo dc).toNat), .int .u32 k0.toNat, .int .u32 k1.toNat, .bool hb], .int .i64 many, .agg #[.int .u64 ((Wd.hi x).toNat), .int .u64 ((Wd.lo x).toNat)]]) Try.func12 rfl Try.ntmps12 (Nat.le_of_ble_eq_true rfl) (fun A F => ?_)
  have H := Sx.Own.start w0
  refine Sx.seq (fun K1 hK1 => ?_)
  refine Sx.plain ?_
  refine Sx.sb F (Sx.d_box F H rfl rfl [.int .u64 ((Wd.hi dc).toNat), .int .u64 ((Wd.lo dc).toNat), .int .u32 k0.toNat, .int .u32 k1.toNat, .bool hb] rfl) (Sx.wanted_none rfl _) rfl (by decide) (fun g1 A w F H => ?_)
  refine Sx.sb F (Sx.d_box F H rfl rfl [.int .u64 ((Wd.hi x).toNat), .int .u64 ((Wd.lo x).toNat)] rfl) (Sx.wanted_none rfl _) rfl (by decide) (fun g2 A w F H => ?_)
  refine Sx.sv F (Sx.d_move F (Or.inr rfl) rfl) (Sx.wanted_none rfl _) rfl (by decide) (fun A F => ?_)
  refine Sx.nil ?_
  refine hK1 _ _ ?_
  refine Sx.seq (fun K2 hK2 => ?_)
  refine Sx.seq (fun K3 hK3 => ?_)
  refine Sx.plain ?_
  refine Sx.sw F (Sx.d_call (vs := []) (v := .bool true) if_45 F H rfl rfl (awake12_c _)) (Sx.wanted_none rfl _) rfl (by decide) (fun A w F H => ?_)
  refine Sx.sv F (Sx.d_un (v := .bool false) F rfl rfl rfl) (Sx.wanted_none rfl _) rfl (by decide) (fun A F => ?_)
  refine Sx.nil ?_
  refine hK3 _ _ ?_
  refine Sx.condF F rfl ?_
  refine wp_skip ?_
  refine hK2 _ _ ?_
  refine Sx.seq (fun K4 hK4 => ?_)
  refine Sx.plain ?_
  refine Sx.sv F (Sx.d_load (i := 1) (xs := [.int .u64 ((Wd.hi dc).toNat), .int .u64 ((Wd.lo dc).toNat), .int .u32 k0.toNat, .int .u32 k1.toNat, .bool hb]) rw_82 F H rfl rfl rfl rfl rfl) (Sx.wanted_none rfl _) rfl (by decide) (fun A F => ?_)
  refine Sx.sv F (Sx.d_move F (Or.inl rfl) rfl) (Sx.wanted_none rfl _) rfl (by decide) (fun A F => ?_)
  refine Sx.sw F (Sx.d_call (vs := [.agg #[.int .u64 ((Wd.hi dc).toNat), .int .u64 ((Wd.lo dc).toNat), .int .u32 k0.toNat, .int .u32 k1.toNat, .bool hb], .int .i64 many]) (v := .tuple #[.slice none 0 0, .agg #[.int .u64 ((Wd.hi 0#128).toNat), .int .u64 ((Wd.lo 0#128).toNat), .int .u32 0, .int .u32 0, .bool false], .int .i64 1]) if_46 F H rfl rfl (Calls.val (hwords_no many (by omega) dc k0 k1 hb _) rfl (by kernel_rfl))) (Sx.wanted_none rfl _) rfl (by decide) (fun A w F H => ?_)
  refine Sx.sv F (Sx.d_move F (Or.inl rfl) rfl) (Sx.wanted_none rfl _) rfl (by decide) (fun A F => ?_)
  refine Sx.sv F (Sx.d_extract (v := .slice none 0 0) F rfl rfl rfl) (Sx.wanted_none rfl _) rfl (by decide) (fun A F => ?_)
  refine Sx.sv F (Sx.d_extract (v := .agg #[.int .u64 ((Wd.hi 0#128).toNat), .int .u64 ((Wd.lo 0#128).toNat), .int .u32 0, .int .u32 0, .bool false]) F rfl rfl rfl) (Sx.wanted_none rfl _) rfl (by decide) (fun A F => ?_)
  refine Sx.sv F (Sx.d_extract (v := .int .i64 1) F rfl rfl rfl) (Sx.wanted_none rfl _) rfl (by decide) (fun A F => ?_)
  refine Sx.sb F (Sx.d_alloc H rfl [.int .u64 ((Wd.hi 0#128).toNat), .int .u64 ((Wd.lo 0#128).toNat), .int .u32 0, .int .u32 0, .bool false] zero_82) (Sx.wanted_none rfl _) rfl (by decide) (fun g3 A w F H => ?_)
  refine Sx.sv F (Sx.d_move F (Or.inr rfl) rfl) (Sx.wanted_none rfl _) rfl (by decide) (fun A F => ?_)
  refine Sx.ss F (Sx.d_store (i := 0) (xs := [.int .u64 ((Wd.hi 0#128).toNat), .int .u64 ((Wd.lo 0#128).toNat), .int .u32 0, .int .u32 0, .bool false]) (us := [.int .u64 ((Wd.hi 0#128).toNat), .int .u64 ((Wd.lo 0#128).toNat), .int .u32 0, .int .u32 0, .bool false]) sz_82 F H rfl rfl rfl rfl rfl rfl rfl (Nat.le_of_ble_eq_true rfl) rfl) (Sx.wanted_none rfl _) rfl (fun A w F (H : Sx.Own w0 _ [(true, g3, [.int .u64 ((Wd.hi 0#128).toNat), .int .u64 ((Wd.lo 0#128).toNat), .int .u32 0, .int .u32 0, .bool false]), (true, g2, [.int .u64 ((Wd.hi x).toNat), .int .u64 ((Wd.lo x).toNat)]), (true, g1, [.int .u64 ((Wd.hi dc).toNat), .int .u64 ((Wd.lo dc).toNat), .int .u32 k0.toNat, .int .u32 k1.toNat, .bool hb])] []) => ?_)
  refine Sx.sv F (Sx.d_move F (Or.inr rfl) rfl) (Sx.wanted_none rfl _) rfl (by decide) (fun A F => ?_)
  refine Sx.nil ?_
  refine hK4 _ _ ?_
  refine Sx.seq (fun K5 hK5 => ?_)
  refine Sx.seq (fun K6 hK6 => ?_)
  refine Sx.plain ?_
  refine Sx.sv F (Sx.d_move F (Or.inl rfl) rfl) (Sx.wanted_none rfl _) rfl (by decide) (fun A F => ?_)
  refine Sx.sv F (Sx.d_bin (v := .bool false) F rfl rfl rfl (Sx.i_lt (decide_eq_false (by omega)))) (Sx.wanted_none rfl _) rfl (by decide) (fun A F => ?_)
  refine Sx.sv F (Sx.d_move F (Or.inl rfl) rfl) (Sx.wanted_none rfl _) rfl (by decide) (fun A F => ?_)
  refine Sx.sv F (Sx.d_move F (Or.inl rfl) rfl) (Sx.wanted_on rfl (Sx.guard_known (d := 23) (b := false) F rfl rfl) rfl) rfl (by decide) (fun A F => ?_)
  refine Sx.sv F (Sx.d_bin (v := .bool true) F rfl rfl rfl (Sx.i_gt (decide_eq_true (by omega)))) (Sx.wanted_on rfl (Sx.guard_known (d := 23) (b := false) F rfl rfl) rfl) rfl (by decide) (fun A F => ?_)
  refine Sx.sv F (Sx.d_pickF (v := .bool true) F rfl rfl rfl) (Sx.wanted_none rfl _) rfl (by decide) (fun A F => ?_)
  refine Sx.nil ?_
  refine hK6 _ _ ?_
  refine Sx.condT F rfl ?_
  refine Sx.seq (fun K7 hK7 => ?_)
  refine Sx.plain ?_
  refine Sx.sv F (Sx.d_move F (Or.inl rfl) rfl) (Sx.wanted_none rfl _) rfl (by decide) (fun A F => ?_)
  refine Sx.sv F (Sx.d_bin (v := .bool false) F rfl rfl rfl (Sx.i_ne (by decide))) (Sx.wanted_none rfl _) rfl (by decide) (fun A F => ?_)
  refine Sx.sv F (Sx.d_move F (Or.inl rfl) rfl) (Sx.wanted_none rfl _) rfl (by decide) (fun A F => ?_)
  refine Sx.sv F (Sx.d_move F (Or.inl rfl) rfl) (Sx.wanted_on rfl (Sx.guard_known (d := 29) (b := false) F rfl rfl) rfl) rfl (by decide) (fun A F => ?_)
  have H := Sx.Own.nilR H 22 1
  refine Sx.sv F (Sx.d_len (i := 0) el_67 F H rfl rfl rfl) (Sx.wanted_on rfl (Sx.guard_known (d := 29) (b := false) F rfl rfl) rfl) rfl (by decide) (fun A F => ?_)
  refine Sx.sv F (Sx.d_bin (v := .bool false) F rfl rfl rfl (Sx.i_gt (by decide))) (Sx.wanted_on rfl (Sx.guard_known (d := 29) (b := false) F rfl rfl) rfl) rfl (by decide) (fun A F => ?_)
  refine Sx.sv F (Sx.d_pickF (v := .bool false) F rfl rfl rfl) (Sx.wanted_none rfl _) rfl (by decide) (fun A F => ?_)
  refine Sx.sv F (Sx.d_move F (Or.inl rfl) rfl) (Sx.wanted_none rfl _) rfl (by decide) (fun A F => ?_)
  refine Sx.sv F (Sx.d_load (i := 0) (xs := [.int .u64 ((Wd.hi 0#128).toNat), .int .u64 ((Wd.lo 0#128).toNat), .int .u32 0, .int .u32 0, .bool false]) rw_82 F H rfl rfl rfl rfl rfl) (Sx.wanted_on rfl (Sx.guard_known (d := 34) (b := false) F rfl rfl) rfl) rfl (by decide) (fun A F => ?_)
  refine Sx.sv F (Sx.d_build (qs := #[]) (v := .agg #[.int .u64 ((Wd.hi 0#128).toNat), .int .u64 ((Wd.lo 0#128).toNat), .int .u32 0, .int .u32 0, .bool false]) F rfl rfl (by kernel_rfl)) (Sx.wanted_on rfl (Sx.guard_known (d := 34) (b := false) F rfl rfl) rfl) rfl (by decide) (fun A F => ?_)
  refine Sx.sv F (Sx.d_bin (v := .bool false) F rfl rfl rfl (Sx.i_neH (by rw [show Sx.eqbH 0#128 0#32 0#32 false 0#128 0#32 0#32 false = true from decide_eq_true ⟨rfl, rfl, rfl, rfl⟩] <;> rfl))) (Sx.wanted_on rfl (Sx.guard_known (d := 34) (b := false) F rfl rfl) rfl) rfl (by decide) (fun A F => ?_)
  refine Sx.sv F (Sx.d_pickF (v := .bool false) F rfl rfl rfl) (Sx.wanted_none rfl _) rfl (by decide) (fun A F => ?_)
  refine Sx.nil ?_
  refine hK7 _ _ ?_
  refine Sx.condF F rfl ?_
  refine wp_skip ?_
  refine hK5 _ _ ?_
  refine Sx.seq (fun K8 hK8 => ?_)
  have F := Sx.Fr.to F (kv' := [(0, .agg #[.int .u64 ((Wd.hi dc).toNat), .int .u64 ((Wd.lo dc).toNat), .int .u32 k0.toNat, .int .u32 k1.toNat, .bool hb]), (1, .int .i64 many), (2, .agg #[.int .u64 ((Wd.hi x).toNat), .int .u64 ((Wd.lo x).toNat)]), (3, .pointer (some ⟨g1, 0, none⟩)), (5, .pointer (some ⟨g2, 0, none⟩)), (12, .bool true), (13, .bool false), (15, .agg #[.int .u64 ((Wd.hi dc).toNat), .int .u64 ((Wd.lo dc).toNat), .int .u32 k0.toNat, .int .u32 k1.toNat, .bool hb]), (16, .int .i64 many), (17, .tuple #[.slice none 0 0, .agg #[.int .u64 ((Wd.hi 0#128).toNat), .int .u64 ((Wd.lo 0#128).toNat), .int .u32 0, .int .u32 0, .bool false], .int .i64 1]), (14, .tuple #[.slice none 0 0, .agg #[.int .u64 ((Wd.hi 0#128).toNat), .int .u64 ((Wd.lo 0#128).toNat), .int .u32 0, .int .u32 0, .bool false], .int .i64 1]), (18, .slice none 0 0), (19, .agg #[.int .u64 ((Wd.hi 0#128).toNat), .int .u64 ((Wd.lo 0#128).toNat), .int .u32 0, .int .u32 0, .bool false]), (20, .int .i64 1), (8, .pointer (some ⟨g3, 0, none⟩)), (7, .slice none 0 0), (9, .int .i64 1), (21, .int .i64 many), (22, .bool false), (23, .bool false), (24, .int .i64 many), (25, .bool true), (26, .bool true), (27, .int .i64 1), (28, .bool false), (29, .bool false), (30, .slice none 0 0), (31, .int .i64 0), (32, .bool false), (33, .bool false), (34, .bool false), (35, .agg #[.int .u64 ((Wd.hi 0#128).toNat), .int .u64 ((Wd.lo 0#128).toNat), .int .u32 0, .int .u32 0, .bool false]), (36, .agg #[.int .u64 ((Wd.hi 0#128).toNat), .int .u64 ((Wd.lo 0#128).toNat), .int .u32 0, .int .u32 0, .bool false]), (37, .bool false), (38, .bool false)]) ⟨rfl, rfl, rfl, rfl, rfl, rfl, rfl, rfl, rfl, rfl, rfl, rfl, rfl, rfl, rfl, rfl, rfl, rfl, rfl, rfl, rfl, rfl, rfl, rfl, rfl, rfl, rfl, rfl, rfl, rfl, rfl, rfl, rfl, rfl, rfl, trivial⟩
  refine Sx.drawn F (by kernel_rfl) (by kernel_rfl) (by kernel_rfl) [some (.agg #[.int .u64 ((Wd.hi dc).toNat), .int .u64 ((Wd.lo dc).toNat), .int .u32 k0.toNat, .int .u32 k1.toNat, .bool hb]), some (.int .u64 ((Hf.word ⟨dc, k0, k1, hb⟩).toNat)), some (.agg #[.int .u64 ((Wd.hi dc).toNat), .int .u64 ((Wd.lo dc).toNat), .int .u32 k0.toNat, .int .u32 k1.toNat, .bool hb]), some (.agg #[.int .u64 ((Wd.hi dc).toNat), .int .u64 ((Wd.lo dc).toNat), .int .u32 k0.toNat, .int .u32 k1.toNat, .bool hb]), some (.int .u64 ((Hf.word ⟨dc, k0, k1, hb⟩).toNat)), some (.bool true), some (.bool true), some (.agg #[.int .u64 ((Wd.hi dc).toNat), .int .u64 ((Wd.lo dc).toNat), .int .u32 k0.toNat, .int .u32 k1.toNat, .bool hb]), some (.agg #[.int .u64 ((Wd.hi ((Hf.step ⟨dc, k0, k1, hb⟩).c)).toNat), .int .u64 ((Wd.lo ((Hf.step ⟨dc, k0, k1, hb⟩).c)).toNat), .int .u32 (((Hf.step ⟨dc, k0, k1, hb⟩).k0).toNat), .int .u32 (((Hf.step ⟨dc, k0, k1, hb⟩).k1).toNat), .bool ((Hf.step ⟨dc, k0, k1, hb⟩).b)]), some (.agg #[.int .u64 ((Wd.hi ((Hf.step ⟨dc, k0, k1, hb⟩).c)).toNat), .int .u64 ((Wd.lo ((Hf.step ⟨dc, k0, k1, hb⟩).c)).toNat), .int .u32 (((Hf.step ⟨dc, k0, k1, hb⟩).k0).toNat), .int .u32 (((Hf.step ⟨dc, k0, k1, hb⟩).k1).toNat), .bool ((Hf.step ⟨dc, k0, k1, hb⟩).b)]), some (.agg #[.int .u64 ((Wd.hi dc).toNat), .int .u64 ((Wd.lo dc).toNat), .int .u32 k0.toNat, .int .u32 k1.toNat, .bool hb]), some (.agg #[.int .u64 ((Wd.hi dc).toNat), .int .u64 ((Wd.lo dc).toNat), .int .u32 k0.toNat, .int .u32 k1.toNat, .bool hb]), some (.agg #[.int .u64 ((Wd.hi ((Hf.step ⟨dc, k0, k1, hb⟩).c)).toNat), .int .u64 ((Wd.lo ((Hf.step ⟨dc, k0, k1, hb⟩).c)).toNat), .int .u32 (((Hf.step ⟨dc, k0, k1, hb⟩).k0).toNat), .int .u32 (((Hf.step ⟨dc, k0, k1, hb⟩).k1).toNat), .bool ((Hf.step ⟨dc, k0, k1, hb⟩).b)]), some (.bool true), some (.bool true), some (.bool true), some (.agg #[.int .u64 ((Wd.hi dc).toNat), .int .u64 ((Wd.lo dc).toNat), .int .u32 k0.toNat, .int .u32 k1.toNat, .bool hb]), some (.agg #[.int .u64 ((Wd.hi x).toNat), .int .u64 ((Wd.lo x).toNat)]), some (.agg #[.int .u64 ((Wd.hi ((Hf.jump ⟨dc, k0, k1, hb⟩ x).c)).toNat), .int .u64 ((Wd.lo ((Hf.jump ⟨dc, k0, k1, hb⟩ x).c)).toNat), .int .u32 (((Hf.jump ⟨dc, k0, k1, hb⟩ x).k0).toNat), .int .u32 (((Hf.jump ⟨dc, k0, k1, hb⟩ x).k1).toNat), .bool ((Hf.jump ⟨dc, k0, k1, hb⟩ x).b)]), some (.agg #[.int .u64 ((Wd.hi ((Hf.jump ⟨dc, k0, k1, hb⟩ x).c)).toNat), .int .u64 ((Wd.lo ((Hf.jump ⟨dc, k0, k1, hb⟩ x).c)).toNat), .int .u32 (((Hf.jump ⟨dc, k0, k1, hb⟩ x).k0).toNat), .int .u32 (((Hf.jump ⟨dc, k0, k1, hb⟩ x).k1).toNat), .bool ((Hf.jump ⟨dc, k0, k1, hb⟩ x).b)]), some (.agg #[.int .u64 ((Wd.hi dc).toNat), .int .u64 ((Wd.lo dc).toNat), .int .u32 k0.toNat, .int .u32 k1.toNat, .bool hb]), some (.agg #[.int .u64 ((Wd.hi dc).toNat), .int .u64 ((Wd.lo dc).toNat), .int .u32 k0.toNat, .int .u32 k1.toNat, .bool hb]), some (.agg #[.int .u64 ((Wd.hi x).toNat), .int .u64 ((Wd.lo x).toNat)]), some (.agg #[.int .u64 ((Wd.hi ((Hf.jump ⟨dc, k0, k1, hb⟩ x).c)).toNat), .int .u64 ((Wd.lo ((Hf.jump ⟨dc, k0, k1, hb⟩ x).c)).toNat), .int .u32 (((Hf.jump ⟨dc, k0, k1, hb⟩ x).k0).toNat), .int .u32 (((Hf.jump ⟨dc, k0, k1, hb⟩ x).k1).toNat), .bool ((Hf.jump ⟨dc, k0, k1, hb⟩ x).b)]), some (.bool true), some (.bool true), some (.bool true), some (.pointer (some ⟨g1, 0, none⟩)), some (.agg #[.int .u64 ((Wd.hi dc).toNat), .int .u64 ((Wd.lo dc).toNat)]), some (.agg #[.int .u32 ((Hf.low (Wd.lo dc)).toNat), .int .u32 ((Hf.top (Wd.lo dc)).toNat), .int .u32 ((Hf.low (Wd.hi dc)).toNat), .int .u32 ((Hf.top (Wd.hi dc)).toNat)]), some (.pointer (some ⟨g1, 0, none⟩)), some (.agg #[.int .u64 ((Wd.hi dc).toNat), .int .u64 ((Wd.lo dc).toNat)]), some (.agg #[.int .u32 ((Hf.low (Wd.lo dc)).toNat), .int .u32 ((Hf.top (Wd.lo dc)).toNat), .int .u32 ((Hf.low (Wd.hi dc)).toNat), .int .u32 ((Hf.top (Wd.hi dc)).toNat)]), some (.bool true), some (.bool true), some (.bool true)] (fun L A w => Sx.Own w0 w [(true, g3, [.int .u64 ((Wd.hi 0#128).toNat), .int .u64 ((Wd.lo 0#128).toNat), .int .u32 0, .int .u32 0, .bool false]), (true, g2, [.int .u64 ((Wd.hi x).toNat), .int .u64 ((Wd.lo x).toNat)]), (true, g1, [.int .u64 ((Wd.hi dc).toNat), .int .u64 ((Wd.lo dc).toNat), .int .u32 k0.toNat, .int .u32 k1.toNat, .bool hb])] [⟨true, .slice none 0 0, 22, 1, 0, []⟩]) H.drew ?_ ?_
  · refine ⟨?_, ?_, ?_, ?_, ?_, ?_, ?_, ?_, ?_, ?_, ?_, ?_, ?_, ?_, ?_, ?_, ?_, ?_, ?_, ?_, ?_, ?_, ?_, ?_, ?_, ?_, ?_, ?_, ?_, ?_, ?_, ?_, ?_, ?_, ?_, ?_, trivial⟩
    · show Sx.StepAt _ _ _ _ _ _ _ 0
      intro L A w up hun hd F H
      have F := Sx.Fr.to F (kv' := [(3, .pointer (some ⟨g1, 0, none⟩))]) ⟨rfl, trivial⟩
      refine Sx.step_on rfl (Sx.d_load (i := 2) (xs := [.int .u64 ((Wd.hi dc).toNat), .int .u64 ((Wd.lo dc).toNat), .int .u32 k0.toNat, .int .u32 k1.toNat, .bool hb]) rw_82 F H rfl rfl rfl rfl rfl) ?_
      rintro xv w' ⟨hx, rfl⟩
      exact ⟨(fun cv hc => hx.trans (Option.some.inj (Option.some.inj hc))), H⟩
    · show Sx.StepAt _ _ _ _ _ _ _ 1
      intro L A w up hun hd F H
      have F := Sx.Fr.to F (kv' := [(67, .agg #[.int .u64 ((Wd.hi dc).toNat), .int .u64 ((Wd.lo dc).toNat), .int .u32 k0.toNat, .int .u32 k1.toNat, .bool hb])]) ⟨rfl, trivial⟩
      refine Sx.step_on rfl (Sx.d_call (vs := [.agg #[.int .u64 ((Wd.hi dc).toNat), .int .u64 ((Wd.lo dc).toNat), .int .u32 k0.toNat, .int .u32 k1.toNat, .bool hb]]) (v := .int .u64 ((Hf.word ⟨dc, k0, k1, hb⟩).toNat)) if_50 F H rfl rfl (hword_c dc k0 k1 hb _)) ?_
      rintro xv w' ⟨hx, H⟩
      exact ⟨(fun cv hc => hx.trans (Option.some.inj (Option.some.inj hc))), H⟩
    · show Sx.StepAt _ _ _ _ _ _ _ 2
      intro L A w up hun hd F H
      have F := Sx.Fr.to F (kv' := [(3, .pointer (some ⟨g1, 0, none⟩))]) ⟨rfl, trivial⟩
      refine Sx.step_on rfl (Sx.d_load (i := 2) (xs := [.int .u64 ((Wd.hi dc).toNat), .int .u64 ((Wd.lo dc).toNat), .int .u32 k0.toNat, .int .u32 k1.toNat, .bool hb]) rw_82 F H rfl rfl rfl rfl rfl) ?_
      rintro xv w' ⟨hx, rfl⟩
      exact ⟨(fun cv hc => hx.trans (Option.some.inj (Option.some.inj hc))), H⟩
    · show Sx.StepAt _ _ _ _ _ _ _ 3
      intro L A w up hun hd F H
      have F := Sx.Fr.to F (kv' := [(69, .agg #[.int .u64 ((Wd.hi dc).toNat), .int .u64 ((Wd.lo dc).toNat), .int .u32 k0.toNat, .int .u32 k1.toNat, .bool hb])]) ⟨rfl, trivial⟩
      refine Sx.step_on rfl (Sx.d_call (vs := [.agg #[.int .u64 ((Wd.hi dc).toNat), .int .u64 ((Wd.lo dc).toNat), .int .u32 k0.toNat, .int .u32 k1.toNat, .bool hb]]) (v := .agg #[.int .u64 ((Wd.hi dc).toNat), .int .u64 ((Wd.lo dc).toNat), .int .u32 k0.toNat, .int .u32 k1.toNat, .bool hb]) if_47 F H rfl rfl (own12_c dc k0 k1 hb _)) ?_
      rintro xv w' ⟨hx, H⟩
      exact ⟨(fun cv hc => hx.trans (Option.some.inj (Option.some.inj hc))), H⟩
    · show Sx.StepAt _ _ _ _ _ _ _ 4
      intro L A w up hun hd F H
      have F := Sx.Fr.to F (kv' := [(70, .agg #[.int .u64 ((Wd.hi dc).toNat), .int .u64 ((Wd.lo dc).toNat), .int .u32 k0.toNat, .int .u32 k1.toNat, .bool hb])]) ⟨rfl, trivial⟩
      refine Sx.step_on rfl (Sx.d_call (vs := [.agg #[.int .u64 ((Wd.hi dc).toNat), .int .u64 ((Wd.lo dc).toNat), .int .u32 k0.toNat, .int .u32 k1.toNat, .bool hb]]) (v := .int .u64 ((Hf.word ⟨dc, k0, k1, hb⟩).toNat)) if_48 F H rfl rfl (rword12_c dc k0 k1 hb _)) ?_
      rintro xv w' ⟨hx, H⟩
      exact ⟨(fun cv hc => hx.trans (Option.some.inj (Option.some.inj hc))), H⟩
    · show Sx.StepAt _ _ _ _ _ _ _ 5
      intro L A w up hun hd F H
      have F := Sx.Fr.to F (kv' := [(68, .int .u64 ((Hf.word ⟨dc, k0, k1, hb⟩).toNat)), (71, .int .u64 ((Hf.word ⟨dc, k0, k1, hb⟩).toNat))]) ⟨rfl, rfl, trivial⟩
      refine Sx.step_on rfl (Sx.d_bin (v := .bool true) F rfl rfl rfl (Sx.i_eq (by simp))) ?_
      rintro xv w' ⟨hx, rfl⟩
      exact ⟨(fun cv hc => hx.trans (Option.some.inj (Option.some.inj hc))), H⟩
    · show Sx.StepAt _ _ _ _ _ _ _ 6
      intro L A w up hun hd F H
      have F := Sx.Fr.to F (kv' := [(72, .bool true)]) ⟨rfl, trivial⟩
      refine Sx.step_on rfl (Sx.d_move F (Or.inl rfl) rfl) ?_
      rintro xv w' ⟨hx, rfl⟩
      exact ⟨(fun cv hc => hx.trans (Option.some.inj (Option.some.inj hc))), H⟩
    · show Sx.StepAt _ _ _ _ _ _ _ 7
      intro L A w up hun hd F H
      have F := Sx.Fr.to F (kv' := [(3, .pointer (some ⟨g1, 0, none⟩)), (73, .bool true)]) ⟨rfl, rfl, trivial⟩
      refine Sx.step_ong rfl (Sx.guard_known (d := 73) (b := true) F rfl rfl) rfl (Sx.d_load (i := 2) (xs := [.int .u64 ((Wd.hi dc).toNat), .int .u64 ((Wd.lo dc).toNat), .int .u32 k0.toNat, .int .u32 k1.toNat, .bool hb]) rw_82 F H rfl rfl rfl rfl rfl) ?_
      rintro xv w' ⟨hx, rfl⟩
      exact ⟨(fun cv hc => hx.trans (Option.some.inj (Option.some.inj hc))), H⟩
    · show Sx.StepAt _ _ _ _ _ _ _ 8
      intro L A w up hun hd F H
      have F := Sx.Fr.to F (kv' := [(74, .agg #[.int .u64 ((Wd.hi dc).toNat), .int .u64 ((Wd.lo dc).toNat), .int .u32 k0.toNat, .int .u32 k1.toNat, .bool hb]), (73, .bool true)]) ⟨rfl, rfl, trivial⟩
      refine Sx.step_ong rfl (Sx.guard_known (d := 73) (b := true) F rfl rfl) rfl (Sx.d_call (vs := [.agg #[.int .u64 ((Wd.hi dc).toNat), .int .u64 ((Wd.lo dc).toNat), .int .u32 k0.toNat, .int .u32 k1.toNat, .bool hb]]) (v := .agg #[.int .u64 ((Wd.hi ((Hf.step ⟨dc, k0, k1, hb⟩).c)).toNat), .int .u64 ((Wd.lo ((Hf.step ⟨dc, k0, k1, hb⟩).c)).toNat), .int .u32 (((Hf.step ⟨dc, k0, k1, hb⟩).k0).toNat), .int .u32 (((Hf.step ⟨dc, k0, k1, hb⟩).k1).toNat), .bool ((Hf.step ⟨dc, k0, k1, hb⟩).b)]) if_51 F H rfl rfl (hstep_c dc k0 k1 hb _)) ?_
      rintro xv w' ⟨hx, H⟩
      exact ⟨(fun cv hc => hx.trans (Option.some.inj (Option.some.inj hc))), H⟩
    · show Sx.StepAt _ _ _ _ _ _ _ 9
      intro L A w up hun hd F H
      have F := Sx.Fr.to F (kv' := [(75, .agg #[.int .u64 ((Wd.hi ((Hf.step ⟨dc, k0, k1, hb⟩).c)).toNat), .int .u64 ((Wd.lo ((Hf.step ⟨dc, k0, k1, hb⟩).c)).toNat), .int .u32 (((Hf.step ⟨dc, k0, k1, hb⟩).k0).toNat), .int .u32 (((Hf.step ⟨dc, k0, k1, hb⟩).k1).toNat), .bool ((Hf.step ⟨dc, k0, k1, hb⟩).b)]), (73, .bool true)]) ⟨rfl, rfl, trivial⟩
      refine Sx.step_ong rfl (Sx.guard_known (d := 73) (b := true) F rfl rfl) rfl (Sx.d_call (vs := [.agg #[.int .u64 ((Wd.hi ((Hf.step ⟨dc, k0, k1, hb⟩).c)).toNat), .int .u64 ((Wd.lo ((Hf.step ⟨dc, k0, k1, hb⟩).c)).toNat), .int .u32 (((Hf.step ⟨dc, k0, k1, hb⟩).k0).toNat), .int .u32 (((Hf.step ⟨dc, k0, k1, hb⟩).k1).toNat), .bool ((Hf.step ⟨dc, k0, k1, hb⟩).b)]]) (v := .agg #[.int .u64 ((Wd.hi ((Hf.step ⟨dc, k0, k1, hb⟩).c)).toNat), .int .u64 ((Wd.lo ((Hf.step ⟨dc, k0, k1, hb⟩).c)).toNat), .int .u32 (((Hf.step ⟨dc, k0, k1, hb⟩).k0).toNat), .int .u32 (((Hf.step ⟨dc, k0, k1, hb⟩).k1).toNat), .bool ((Hf.step ⟨dc, k0, k1, hb⟩).b)]) if_47 F H rfl rfl (own12_c ((Hf.step ⟨dc, k0, k1, hb⟩).c) ((Hf.step ⟨dc, k0, k1, hb⟩).k0) ((Hf.step ⟨dc, k0, k1, hb⟩).k1) ((Hf.step ⟨dc, k0, k1, hb⟩).b) _)) ?_
      rintro xv w' ⟨hx, H⟩
      exact ⟨(fun cv hc => hx.trans (Option.some.inj (Option.some.inj hc))), H⟩
    · show Sx.StepAt _ _ _ _ _ _ _ 10
      intro L A w up hun hd F H
      have F := Sx.Fr.to F (kv' := [(3, .pointer (some ⟨g1, 0, none⟩)), (73, .bool true)]) ⟨rfl, rfl, trivial⟩
      refine Sx.step_ong rfl (Sx.guard_known (d := 73) (b := true) F rfl rfl) rfl (Sx.d_load (i := 2) (xs := [.int .u64 ((Wd.hi dc).toNat), .int .u64 ((Wd.lo dc).toNat), .int .u32 k0.toNat, .int .u32 k1.toNat, .bool hb]) rw_82 F H rfl rfl rfl rfl rfl) ?_
      rintro xv w' ⟨hx, rfl⟩
      exact ⟨(fun cv hc => hx.trans (Option.some.inj (Option.some.inj hc))), H⟩
    · show Sx.StepAt _ _ _ _ _ _ _ 11
      intro L A w up hun hd F H
      have F := Sx.Fr.to F (kv' := [(77, .agg #[.int .u64 ((Wd.hi dc).toNat), .int .u64 ((Wd.lo dc).toNat), .int .u32 k0.toNat, .int .u32 k1.toNat, .bool hb]), (73, .bool true)]) ⟨rfl, rfl, trivial⟩
      refine Sx.step_ong rfl (Sx.guard_known (d := 73) (b := true) F rfl rfl) rfl (Sx.d_call (vs := [.agg #[.int .u64 ((Wd.hi dc).toNat), .int .u64 ((Wd.lo dc).toNat), .int .u32 k0.toNat, .int .u32 k1.toNat, .bool hb]]) (v := .agg #[.int .u64 ((Wd.hi dc).toNat), .int .u64 ((Wd.lo dc).toNat), .int .u32 k0.toNat, .int .u32 k1.toNat, .bool hb]) if_47 F H rfl rfl (own12_c dc k0 k1 hb _)) ?_
      rintro xv w' ⟨hx, H⟩
      exact ⟨(fun cv hc => hx.trans (Option.some.inj (Option.some.inj hc))), H⟩
    · show Sx.StepAt _ _ _ _ _ _ _ 12
      intro L A w up hun hd F H
      have F := Sx.Fr.to F (kv' := [(78, .agg #[.int .u64 ((Wd.hi dc).toNat), .int .u64 ((Wd.lo dc).toNat), .int .u32 k0.toNat, .int .u32 k1.toNat, .bool hb]), (73, .bool true)]) ⟨rfl, rfl, trivial⟩
      refine Sx.step_ong rfl (Sx.guard_known (d := 73) (b := true) F rfl rfl) rfl (Sx.d_call (vs := [.agg #[.int .u64 ((Wd.hi dc).toNat), .int .u64 ((Wd.lo dc).toNat), .int .u32 k0.toNat, .int .u32 k1.toNat, .bool hb]]) (v := .agg #[.int .u64 ((Wd.hi ((Hf.step ⟨dc, k0, k1, hb⟩).c)).toNat), .int .u64 ((Wd.lo ((Hf.step ⟨dc, k0, k1, hb⟩).c)).toNat), .int .u32 (((Hf.step ⟨dc, k0, k1, hb⟩).k0).toNat), .int .u32 (((Hf.step ⟨dc, k0, k1, hb⟩).k1).toNat), .bool ((Hf.step ⟨dc, k0, k1, hb⟩).b)]) if_49 F H rfl rfl (rstep12_c dc k0 k1 hb _)) ?_
      rintro xv w' ⟨hx, H⟩
      exact ⟨(fun cv hc => hx.trans (Option.some.inj (Option.some.inj hc))), H⟩
    · show Sx.StepAt _ _ _ _ _ _ _ 13
      intro L A w up hun hd F H
      have F := Sx.Fr.to F (kv' := [(76, .agg #[.int .u64 ((Wd.hi ((Hf.step ⟨dc, k0, k1, hb⟩).c)).toNat), .int .u64 ((Wd.lo ((Hf.step ⟨dc, k0, k1, hb⟩).c)).toNat), .int .u32 (((Hf.step ⟨dc, k0, k1, hb⟩).k0).toNat), .int .u32 (((Hf.step ⟨dc, k0, k1, hb⟩).k1).toNat), .bool ((Hf.step ⟨dc, k0, k1, hb⟩).b)]), (79, .agg #[.int .u64 ((Wd.hi ((Hf.step ⟨dc, k0, k1, hb⟩).c)).toNat), .int .u64 ((Wd.lo ((Hf.step ⟨dc, k0, k1, hb⟩).c)).toNat), .int .u32 (((Hf.step ⟨dc, k0, k1, hb⟩).k0).toNat), .int .u32 (((Hf.step ⟨dc, k0, k1, hb⟩).k1).toNat), .bool ((Hf.step ⟨dc, k0, k1, hb⟩).b)]), (73, .bool true)]) ⟨rfl, rfl, rfl, trivial⟩
      refine Sx.step_ong rfl (Sx.guard_known (d := 73) (b := true) F rfl rfl) rfl (Sx.d_bin (v := .bool true) F rfl rfl rfl (Sx.i_eqG (decide_eq_true ⟨rfl, rfl, rfl, rfl⟩))) ?_
      rintro xv w' ⟨hx, rfl⟩
      exact ⟨(fun cv hc => hx.trans (Option.some.inj (Option.some.inj hc))), H⟩
    · show Sx.StepAt _ _ _ _ _ _ _ 14
      intro L A w up hun hd F H
      have F := Sx.Fr.to F (kv' := [(73, .bool true), (80, .bool true)]) ⟨rfl, rfl, trivial⟩
      refine Sx.step_on rfl (Sx.d_pickT (v := .bool true) F rfl rfl rfl) ?_
      rintro xv w' ⟨hx, rfl⟩
      exact ⟨(fun cv hc => hx.trans (Option.some.inj (Option.some.inj hc))), H⟩
    · show Sx.StepAt _ _ _ _ _ _ _ 15
      intro L A w up hun hd F H
      have F := Sx.Fr.to F (kv' := [(81, .bool true)]) ⟨rfl, trivial⟩
      refine Sx.step_on rfl (Sx.d_move F (Or.inl rfl) rfl) ?_
      rintro xv w' ⟨hx, rfl⟩
      exact ⟨(fun cv hc => hx.trans (Option.some.inj (Option.some.inj hc))), H⟩
    · show Sx.StepAt _ _ _ _ _ _ _ 16
      intro L A w up hun hd F H
      have F := Sx.Fr.to F (kv' := [(3, .pointer (some ⟨g1, 0, none⟩)), (82, .bool true)]) ⟨rfl, rfl, trivial⟩
      refine Sx.step_ong rfl (Sx.guard_known (d := 82) (b := true) F rfl rfl) rfl (Sx.d_load (i := 2) (xs := [.int .u64 ((Wd.hi dc).toNat), .int .u64 ((Wd.lo dc).toNat), .int .u32 k0.toNat, .int .u32 k1.toNat, .bool hb]) rw_82 F H rfl rfl rfl rfl rfl) ?_
      rintro xv w' ⟨hx, rfl⟩
      exact ⟨(fun cv hc => hx.trans (Option.some.inj (Option.some.inj hc))), H⟩
    · show Sx.StepAt _ _ _ _ _ _ _ 17
      intro L A w up hun hd F H
      have F := Sx.Fr.to F (kv' := [(5, .pointer (some ⟨g2, 0, none⟩)), (82, .bool true)]) ⟨rfl, rfl, trivial⟩
      refine Sx.step_ong rfl (Sx.guard_known (d := 82) (b := true) F rfl rfl) rfl (Sx.d_load (i := 1) (xs := [.int .u64 ((Wd.hi x).toNat), .int .u64 ((Wd.lo x).toNat)]) rw_24 F H rfl rfl rfl rfl rfl) ?_
      rintro xv w' ⟨hx, rfl⟩
      exact ⟨(fun cv hc => hx.trans (Option.some.inj (Option.some.inj hc))), H⟩
    · show Sx.StepAt _ _ _ _ _ _ _ 18
      intro L A w up hun hd F H
      have F := Sx.Fr.to F (kv' := [(83, .agg #[.int .u64 ((Wd.hi dc).toNat), .int .u64 ((Wd.lo dc).toNat), .int .u32 k0.toNat, .int .u32 k1.toNat, .bool hb]), (84, .agg #[.int .u64 ((Wd.hi x).toNat), .int .u64 ((Wd.lo x).toNat)]), (82, .bool true)]) ⟨rfl, rfl, rfl, trivial⟩
      refine Sx.step_ong rfl (Sx.guard_known (d := 82) (b := true) F rfl rfl) rfl (Sx.d_call (vs := [.agg #[.int .u64 ((Wd.hi dc).toNat), .int .u64 ((Wd.lo dc).toNat), .int .u32 k0.toNat, .int .u32 k1.toNat, .bool hb], .agg #[.int .u64 ((Wd.hi x).toNat), .int .u64 ((Wd.lo x).toNat)]]) (v := .agg #[.int .u64 ((Wd.hi ((Hf.jump ⟨dc, k0, k1, hb⟩ x).c)).toNat), .int .u64 ((Wd.lo ((Hf.jump ⟨dc, k0, k1, hb⟩ x).c)).toNat), .int .u32 (((Hf.jump ⟨dc, k0, k1, hb⟩ x).k0).toNat), .int .u32 (((Hf.jump ⟨dc, k0, k1, hb⟩ x).k1).toNat), .bool ((Hf.jump ⟨dc, k0, k1, hb⟩ x).b)]) if_52 F H rfl rfl (hjump_c dc k0 k1 hb x _)) ?_
      rintro xv w' ⟨hx, H⟩
      exact ⟨(fun cv hc => hx.trans (Option.some.inj (Option.some.inj hc))), H⟩
    · show Sx.StepAt _ _ _ _ _ _ _ 19
      intro L A w up hun hd F H
      have F := Sx.Fr.to F (kv' := [(85, .agg #[.int .u64 ((Wd.hi ((Hf.jump ⟨dc, k0, k1, hb⟩ x).c)).toNat), .int .u64 ((Wd.lo ((Hf.jump ⟨dc, k0, k1, hb⟩ x).c)).toNat), .int .u32 (((Hf.jump ⟨dc, k0, k1, hb⟩ x).k0).toNat), .int .u32 (((Hf.jump ⟨dc, k0, k1, hb⟩ x).k1).toNat), .bool ((Hf.jump ⟨dc, k0, k1, hb⟩ x).b)]), (82, .bool true)]) ⟨rfl, rfl, trivial⟩
      refine Sx.step_ong rfl (Sx.guard_known (d := 82) (b := true) F rfl rfl) rfl (Sx.d_call (vs := [.agg #[.int .u64 ((Wd.hi ((Hf.jump ⟨dc, k0, k1, hb⟩ x).c)).toNat), .int .u64 ((Wd.lo ((Hf.jump ⟨dc, k0, k1, hb⟩ x).c)).toNat), .int .u32 (((Hf.jump ⟨dc, k0, k1, hb⟩ x).k0).toNat), .int .u32 (((Hf.jump ⟨dc, k0, k1, hb⟩ x).k1).toNat), .bool ((Hf.jump ⟨dc, k0, k1, hb⟩ x).b)]]) (v := .agg #[.int .u64 ((Wd.hi ((Hf.jump ⟨dc, k0, k1, hb⟩ x).c)).toNat), .int .u64 ((Wd.lo ((Hf.jump ⟨dc, k0, k1, hb⟩ x).c)).toNat), .int .u32 (((Hf.jump ⟨dc, k0, k1, hb⟩ x).k0).toNat), .int .u32 (((Hf.jump ⟨dc, k0, k1, hb⟩ x).k1).toNat), .bool ((Hf.jump ⟨dc, k0, k1, hb⟩ x).b)]) if_47 F H rfl rfl (own12_c ((Hf.jump ⟨dc, k0, k1, hb⟩ x).c) ((Hf.jump ⟨dc, k0, k1, hb⟩ x).k0) ((Hf.jump ⟨dc, k0, k1, hb⟩ x).k1) ((Hf.jump ⟨dc, k0, k1, hb⟩ x).b) _)) ?_
      rintro xv w' ⟨hx, H⟩
      exact ⟨(fun cv hc => hx.trans (Option.some.inj (Option.some.inj hc))), H⟩
    · show Sx.StepAt _ _ _ _ _ _ _ 20
      intro L A w up hun hd F H
      have F := Sx.Fr.to F (kv' := [(3, .pointer (some ⟨g1, 0, none⟩)), (82, .bool true)]) ⟨rfl, rfl, trivial⟩
      refine Sx.step_ong rfl (Sx.guard_known (d := 82) (b := true) F rfl rfl) rfl (Sx.d_load (i := 2) (xs := [.int .u64 ((Wd.hi dc).toNat), .int .u64 ((Wd.lo dc).toNat), .int .u32 k0.toNat, .int .u32 k1.toNat, .bool hb]) rw_82 F H rfl rfl rfl rfl rfl) ?_
      rintro xv w' ⟨hx, rfl⟩
      exact ⟨(fun cv hc => hx.trans (Option.some.inj (Option.some.inj hc))), H⟩
    · show Sx.StepAt _ _ _ _ _ _ _ 21
      intro L A w up hun hd F H
      have F := Sx.Fr.to F (kv' := [(87, .agg #[.int .u64 ((Wd.hi dc).toNat), .int .u64 ((Wd.lo dc).toNat), .int .u32 k0.toNat, .int .u32 k1.toNat, .bool hb]), (82, .bool true)]) ⟨rfl, rfl, trivial⟩
      refine Sx.step_ong rfl (Sx.guard_known (d := 82) (b := true) F rfl rfl) rfl (Sx.d_call (vs := [.agg #[.int .u64 ((Wd.hi dc).toNat), .int .u64 ((Wd.lo dc).toNat), .int .u32 k0.toNat, .int .u32 k1.toNat, .bool hb]]) (v := .agg #[.int .u64 ((Wd.hi dc).toNat), .int .u64 ((Wd.lo dc).toNat), .int .u32 k0.toNat, .int .u32 k1.toNat, .bool hb]) if_47 F H rfl rfl (own12_c dc k0 k1 hb _)) ?_
      rintro xv w' ⟨hx, H⟩
      exact ⟨(fun cv hc => hx.trans (Option.some.inj (Option.some.inj hc))), H⟩
    · show Sx.StepAt _ _ _ _ _ _ _ 22
      intro L A w up hun hd F H
      have F := Sx.Fr.to F (kv' := [(5, .pointer (some ⟨g2, 0, none⟩)), (82, .bool true)]) ⟨rfl, rfl, trivial⟩
      refine Sx.step_ong rfl (Sx.guard_known (d := 82) (b := true) F rfl rfl) rfl (Sx.d_load (i := 1) (xs := [.int .u64 ((Wd.hi x).toNat), .int .u64 ((Wd.lo x).toNat)]) rw_24 F H rfl rfl rfl rfl rfl) ?_
      rintro xv w' ⟨hx, rfl⟩
      exact ⟨(fun cv hc => hx.trans (Option.some.inj (Option.some.inj hc))), H⟩
    · show Sx.StepAt _ _ _ _ _ _ _ 23
      intro L A w up hun hd F H
      have F := Sx.Fr.to F (kv' := [(88, .agg #[.int .u64 ((Wd.hi dc).toNat), .int .u64 ((Wd.lo dc).toNat), .int .u32 k0.toNat, .int .u32 k1.toNat, .bool hb]), (89, .agg #[.int .u64 ((Wd.hi x).toNat), .int .u64 ((Wd.lo x).toNat)]), (82, .bool true)]) ⟨rfl, rfl, rfl, trivial⟩
      refine Sx.step_ong rfl (Sx.guard_known (d := 82) (b := true) F rfl rfl) rfl (Sx.d_call (vs := [.agg #[.int .u64 ((Wd.hi dc).toNat), .int .u64 ((Wd.lo dc).toNat), .int .u32 k0.toNat, .int .u32 k1.toNat, .bool hb], .agg #[.int .u64 ((Wd.hi x).toNat), .int .u64 ((Wd.lo x).toNat)]]) (v := .agg #[.int .u64 ((Wd.hi ((Hf.jump ⟨dc, k0, k1, hb⟩ x).c)).toNat), .int .u64 ((Wd.lo ((Hf.jump ⟨dc, k0, k1, hb⟩ x).c)).toNat), .int .u32 (((Hf.jump ⟨dc, k0, k1, hb⟩ x).k0).toNat), .int .u32 (((Hf.jump ⟨dc, k0, k1, hb⟩ x).k1).toNat), .bool ((Hf.jump ⟨dc, k0, k1, hb⟩ x).b)]) if_53 F H rfl rfl (rfar12_c dc k0 k1 hb x _)) ?_
      rintro xv w' ⟨hx, H⟩
      exact ⟨(fun cv hc => hx.trans (Option.some.inj (Option.some.inj hc))), H⟩
    · show Sx.StepAt _ _ _ _ _ _ _ 24
      intro L A w up hun hd F H
      have F := Sx.Fr.to F (kv' := [(86, .agg #[.int .u64 ((Wd.hi ((Hf.jump ⟨dc, k0, k1, hb⟩ x).c)).toNat), .int .u64 ((Wd.lo ((Hf.jump ⟨dc, k0, k1, hb⟩ x).c)).toNat), .int .u32 (((Hf.jump ⟨dc, k0, k1, hb⟩ x).k0).toNat), .int .u32 (((Hf.jump ⟨dc, k0, k1, hb⟩ x).k1).toNat), .bool ((Hf.jump ⟨dc, k0, k1, hb⟩ x).b)]), (90, .agg #[.int .u64 ((Wd.hi ((Hf.jump ⟨dc, k0, k1, hb⟩ x).c)).toNat), .int .u64 ((Wd.lo ((Hf.jump ⟨dc, k0, k1, hb⟩ x).c)).toNat), .int .u32 (((Hf.jump ⟨dc, k0, k1, hb⟩ x).k0).toNat), .int .u32 (((Hf.jump ⟨dc, k0, k1, hb⟩ x).k1).toNat), .bool ((Hf.jump ⟨dc, k0, k1, hb⟩ x).b)]), (82, .bool true)]) ⟨rfl, rfl, rfl, trivial⟩
      refine Sx.step_ong rfl (Sx.guard_known (d := 82) (b := true) F rfl rfl) rfl (Sx.d_bin (v := .bool true) F rfl rfl rfl (Sx.i_eqG (decide_eq_true ⟨rfl, rfl, rfl, rfl⟩))) ?_
      rintro xv w' ⟨hx, rfl⟩
      exact ⟨(fun cv hc => hx.trans (Option.some.inj (Option.some.inj hc))), H⟩
    · show Sx.StepAt _ _ _ _ _ _ _ 25
      intro L A w up hun hd F H
      have F := Sx.Fr.to F (kv' := [(82, .bool true), (91, .bool true)]) ⟨rfl, rfl, trivial⟩
      refine Sx.step_on rfl (Sx.d_pickT (v := .bool true) F rfl rfl rfl) ?_
      rintro xv w' ⟨hx, rfl⟩
      exact ⟨(fun cv hc => hx.trans (Option.some.inj (Option.some.inj hc))), H⟩
    · show Sx.StepAt _ _ _ _ _ _ _ 26
      intro L A w up hun hd F H
      have F := Sx.Fr.to F (kv' := [(92, .bool true)]) ⟨rfl, trivial⟩
      refine Sx.step_on rfl (Sx.d_move F (Or.inl rfl) rfl) ?_
      rintro xv w' ⟨hx, rfl⟩
      exact ⟨(fun cv hc => hx.trans (Option.some.inj (Option.some.inj hc))), H⟩
    · show Sx.StepAt _ _ _ _ _ _ _ 27
      intro L A w up hun hd F H
      have F := Sx.Fr.to F (kv' := [(3, .pointer (some ⟨g1, 0, none⟩)), (93, .bool true)]) ⟨rfl, rfl, trivial⟩
      refine Sx.step_ong rfl (Sx.guard_known (d := 93) (b := true) F rfl rfl) rfl (Sx.d_faddr (v := .pointer (some ⟨g1, 0, none⟩)) F rfl rfl (fa_82_0 _ 0 _)) ?_
      rintro xv w' ⟨hx, rfl⟩
      exact ⟨(fun cv hc => hx.trans (Option.some.inj (Option.some.inj hc))), H⟩
    · show Sx.StepAt _ _ _ _ _ _ _ 28
      intro L A w up hun hd F H
      have F := Sx.Fr.to F (kv' := [(94, .pointer (some ⟨g1, 0, none⟩)), (93, .bool true)]) ⟨rfl, rfl, trivial⟩
      refine Sx.step_ong rfl (Sx.guard_known (d := 93) (b := true) F rfl rfl) rfl (Sx.d_load (i := 2) (xs := [.int .u64 ((Wd.hi dc).toNat), .int .u64 ((Wd.lo dc).toNat)]) rw_24 F H rfl rfl rfl rfl rfl) ?_
      rintro xv w' ⟨hx, rfl⟩
      exact ⟨(fun cv hc => hx.trans (Option.some.inj (Option.some.inj hc))), H⟩
    · show Sx.StepAt _ _ _ _ _ _ _ 29
      intro L A w up hun hd F H
      have F := Sx.Fr.to F (kv' := [(95, .agg #[.int .u64 ((Wd.hi dc).toNat), .int .u64 ((Wd.lo dc).toNat)]), (93, .bool true)]) ⟨rfl, rfl, trivial⟩
      refine Sx.step_ong rfl (Sx.guard_known (d := 93) (b := true) F rfl rfl) rfl (Sx.d_call (vs := [.agg #[.int .u64 ((Wd.hi dc).toNat), .int .u64 ((Wd.lo dc).toNat)]]) (v := .agg #[.int .u32 ((Hf.low (Wd.lo dc)).toNat), .int .u32 ((Hf.top (Wd.lo dc)).toNat), .int .u32 ((Hf.low (Wd.hi dc)).toNat), .int .u32 ((Hf.top (Wd.hi dc)).toNat)]) if_54 F H rfl rfl (hblock_c dc _)) ?_
      rintro xv w' ⟨hx, H⟩
      exact ⟨(fun cv hc => hx.trans (Option.some.inj (Option.some.inj hc))), H⟩
    · show Sx.StepAt _ _ _ _ _ _ _ 30
      intro L A w up hun hd F H
      have F := Sx.Fr.to F (kv' := [(3, .pointer (some ⟨g1, 0, none⟩)), (93, .bool true)]) ⟨rfl, rfl, trivial⟩
      refine Sx.step_ong rfl (Sx.guard_known (d := 93) (b := true) F rfl rfl) rfl (Sx.d_faddr (v := .pointer (some ⟨g1, 0, none⟩)) F rfl rfl (fa_82_0 _ 0 _)) ?_
      rintro xv w' ⟨hx, rfl⟩
      exact ⟨(fun cv hc => hx.trans (Option.some.inj (Option.some.inj hc))), H⟩
    · show Sx.StepAt _ _ _ _ _ _ _ 31
      intro L A w up hun hd F H
      have F := Sx.Fr.to F (kv' := [(97, .pointer (some ⟨g1, 0, none⟩)), (93, .bool true)]) ⟨rfl, rfl, trivial⟩
      refine Sx.step_ong rfl (Sx.guard_known (d := 93) (b := true) F rfl rfl) rfl (Sx.d_load (i := 2) (xs := [.int .u64 ((Wd.hi dc).toNat), .int .u64 ((Wd.lo dc).toNat)]) rw_24 F H rfl rfl rfl rfl rfl) ?_
      rintro xv w' ⟨hx, rfl⟩
      exact ⟨(fun cv hc => hx.trans (Option.some.inj (Option.some.inj hc))), H⟩
    · show Sx.StepAt _ _ _ _ _ _ _ 32
      intro L A w up hun hd F H
      have F := Sx.Fr.to F (kv' := [(98, .agg #[.int .u64 ((Wd.hi dc).toNat), .int .u64 ((Wd.lo dc).toNat)]), (93, .bool true)]) ⟨rfl, rfl, trivial⟩
      refine Sx.step_ong rfl (Sx.guard_known (d := 93) (b := true) F rfl rfl) rfl (Sx.d_call (vs := [.agg #[.int .u64 ((Wd.hi dc).toNat), .int .u64 ((Wd.lo dc).toNat)]]) (v := .agg #[.int .u32 ((Hf.low (Wd.lo dc)).toNat), .int .u32 ((Hf.top (Wd.lo dc)).toNat), .int .u32 ((Hf.low (Wd.hi dc)).toNat), .int .u32 ((Hf.top (Wd.hi dc)).toNat)]) if_55 F H rfl rfl (rblock12_c dc _)) ?_
      rintro xv w' ⟨hx, H⟩
      exact ⟨(fun cv hc => hx.trans (Option.some.inj (Option.some.inj hc))), H⟩
    · show Sx.StepAt _ _ _ _ _ _ _ 33
      intro L A w up hun hd F H
      have F := Sx.Fr.to F (kv' := [(96, .agg #[.int .u32 ((Hf.low (Wd.lo dc)).toNat), .int .u32 ((Hf.top (Wd.lo dc)).toNat), .int .u32 ((Hf.low (Wd.hi dc)).toNat), .int .u32 ((Hf.top (Wd.hi dc)).toNat)]), (99, .agg #[.int .u32 ((Hf.low (Wd.lo dc)).toNat), .int .u32 ((Hf.top (Wd.lo dc)).toNat), .int .u32 ((Hf.low (Wd.hi dc)).toNat), .int .u32 ((Hf.top (Wd.hi dc)).toNat)]), (93, .bool true)]) ⟨rfl, rfl, rfl, trivial⟩
      refine Sx.step_ong rfl (Sx.guard_known (d := 93) (b := true) F rfl rfl) rfl (Sx.d_bin (v := .bool true) F rfl rfl rfl Sx.i_eqB) ?_
      rintro xv w' ⟨hx, rfl⟩
      exact ⟨(fun cv hc => hx.trans (Option.some.inj (Option.some.inj hc))), H⟩
    · show Sx.StepAt _ _ _ _ _ _ _ 34
      intro L A w up hun hd F H
      have F := Sx.Fr.to F (kv' := [(93, .bool true), (100, .bool true)]) ⟨rfl, rfl, trivial⟩
      refine Sx.step_on rfl (Sx.d_pickT (v := .bool true) F rfl rfl rfl) ?_
      rintro xv w' ⟨hx, rfl⟩
      exact ⟨(fun cv hc => hx.trans (Option.some.inj (Option.some.inj hc))), H⟩
    · show Sx.StepAt _ _ _ _ _ _ _ 35
      intro L A w up hun hd F H
      have F := Sx.Fr.to F (kv' := [(101, .bool true)]) ⟨rfl, trivial⟩
      refine Sx.step_on rfl (Sx.d_move F (Or.inr rfl) rfl) ?_
      rintro xv w' ⟨hx, rfl⟩
      exact ⟨(fun cv hc => hx.trans (Option.some.inj (Option.some.inj hc))), H⟩
  · intro L A w hL F H
    have F := Sx.Fr.to F (kv' := [(0, .agg #[.int .u64 ((Wd.hi dc).toNat), .int .u64 ((Wd.lo dc).toNat), .int .u32 k0.toNat, .int .u32 k1.toNat, .bool hb]), (1, .int .i64 many), (2, .agg #[.int .u64 ((Wd.hi x).toNat), .int .u64 ((Wd.lo x).toNat)]), (3, .pointer (some ⟨g1, 0, none⟩)), (5, .pointer (some ⟨g2, 0, none⟩)), (12, .bool true), (13, .bool false), (15, .agg #[.int .u64 ((Wd.hi dc).toNat), .int .u64 ((Wd.lo dc).toNat), .int .u32 k0.toNat, .int .u32 k1.toNat, .bool hb]), (16, .int .i64 many), (17, .tuple #[.slice none 0 0, .agg #[.int .u64 ((Wd.hi 0#128).toNat), .int .u64 ((Wd.lo 0#128).toNat), .int .u32 0, .int .u32 0, .bool false], .int .i64 1]), (14, .tuple #[.slice none 0 0, .agg #[.int .u64 ((Wd.hi 0#128).toNat), .int .u64 ((Wd.lo 0#128).toNat), .int .u32 0, .int .u32 0, .bool false], .int .i64 1]), (18, .slice none 0 0), (19, .agg #[.int .u64 ((Wd.hi 0#128).toNat), .int .u64 ((Wd.lo 0#128).toNat), .int .u32 0, .int .u32 0, .bool false]), (20, .int .i64 1), (8, .pointer (some ⟨g3, 0, none⟩)), (7, .slice none 0 0), (9, .int .i64 1), (21, .int .i64 many), (22, .bool false), (23, .bool false), (24, .int .i64 many), (25, .bool true), (26, .bool true), (27, .int .i64 1), (28, .bool false), (29, .bool false), (30, .slice none 0 0), (31, .int .i64 0), (32, .bool false), (33, .bool false), (34, .bool false), (35, .agg #[.int .u64 ((Wd.hi 0#128).toNat), .int .u64 ((Wd.lo 0#128).toNat), .int .u32 0, .int .u32 0, .bool false]), (36, .agg #[.int .u64 ((Wd.hi 0#128).toNat), .int .u64 ((Wd.lo 0#128).toNat), .int .u32 0, .int .u32 0, .bool false]), (37, .bool false), (38, .bool false), (6, .bool true)]) ⟨rfl, rfl, rfl, rfl, rfl, rfl, rfl, rfl, rfl, rfl, rfl, rfl, rfl, rfl, rfl, rfl, rfl, rfl, rfl, rfl, rfl, rfl, rfl, rfl, rfl, rfl, rfl, rfl, rfl, rfl, rfl, rfl, rfl, rfl, rfl, rfl, trivial⟩
    refine hK8 _ _ ?_
    refine wp_ret ?_
    try dsimp only [Exit.then, Exit.inBlock, Exit.jump]
    refine Sx.ret1 F Try.results12 (Sx.res_tmp (v := .bool true) F rfl) ⟨?_, H.below⟩
    rfl
set_option maxHeartbeats 4000000 in
set_option maxRecDepth 100000 in
theorem halfTells_ok (dc : BitVec 128) (k0 k1 : BitVec 32) (hb : Bool) (x : BitVec 128) (n : Nat) (hn : n ≤ 256) (w0 : World) : Calls Try.prog 12 #[.agg #[.int .u64 ((Wd.hi dc).toNat), .int .u64 ((Wd.lo dc).toNat), .int .u32 k0.toNat, .int .u32 k1.toNat, .bool hb], .int .i64 n, .agg #[.int .u64 ((Wd.hi x).toNat), .int .u64 ((Wd.lo x).toNat)]] w0 fun e w' => e = .returned (.bool true) ∧ Below w0.heap.size w0 w' := by
  refine Sx.enter (args := [.agg #[.int .u64 ((Wd.hi dc).toNat), .int .u64 ((Wd.lo dc).toNat), .int .u32 k0.toNat, .int .u32 k1.toNat, .bool hb], .int .i64 n, .agg #[.int .u64 ((Wd.hi x).toNat), .int .u64 ((Wd.lo x).toNat)]]) Try.func12 rfl Try.ntmps12 (Nat.le_of_ble_eq_true rfl) (fun A F => ?_)
  have H := Sx.Own.start w0
  refine Sx.seq (fun K1 hK1 => ?_)
  refine Sx.plain ?_
  refine Sx.sb F (Sx.d_box F H rfl rfl [.int .u64 ((Wd.hi dc).toNat), .int .u64 ((Wd.lo dc).toNat), .int .u32 k0.toNat, .int .u32 k1.toNat, .bool hb] rfl) (Sx.wanted_none rfl _) rfl (by decide) (fun g1 A w F H => ?_)
  refine Sx.sb F (Sx.d_box F H rfl rfl [.int .u64 ((Wd.hi x).toNat), .int .u64 ((Wd.lo x).toNat)] rfl) (Sx.wanted_none rfl _) rfl (by decide) (fun g2 A w F H => ?_)
  refine Sx.sv F (Sx.d_move F (Or.inr rfl) rfl) (Sx.wanted_none rfl _) rfl (by decide) (fun A F => ?_)
  refine Sx.nil ?_
  refine hK1 _ _ ?_
  refine Sx.seq (fun K2 hK2 => ?_)
  refine Sx.seq (fun K3 hK3 => ?_)
  refine Sx.plain ?_
  refine Sx.sw F (Sx.d_call (vs := []) (v := .bool true) if_45 F H rfl rfl (awake12_c _)) (Sx.wanted_none rfl _) rfl (by decide) (fun A w F H => ?_)
  refine Sx.sv F (Sx.d_un (v := .bool false) F rfl rfl rfl) (Sx.wanted_none rfl _) rfl (by decide) (fun A F => ?_)
  refine Sx.nil ?_
  refine hK3 _ _ ?_
  refine Sx.condF F rfl ?_
  refine wp_skip ?_
  refine hK2 _ _ ?_
  refine Sx.seq (fun K4 hK4 => ?_)
  refine Sx.plain ?_
  refine Sx.sv F (Sx.d_load (i := 1) (xs := [.int .u64 ((Wd.hi dc).toNat), .int .u64 ((Wd.lo dc).toNat), .int .u32 k0.toNat, .int .u32 k1.toNat, .bool hb]) rw_82 F H rfl rfl rfl rfl rfl) (Sx.wanted_none rfl _) rfl (by decide) (fun A F => ?_)
  refine Sx.sv F (Sx.d_move F (Or.inl rfl) rfl) (Sx.wanted_none rfl _) rfl (by decide) (fun A F => ?_)
  refine Sx.sr (mk := fun v => .tuple #[v, .agg #[.int .u64 ((Wd.hi ((Hf.it n ⟨dc, k0, k1, hb⟩).c)).toNat), .int .u64 ((Wd.lo ((Hf.it n ⟨dc, k0, k1, hb⟩).c)).toNat), .int .u32 (((Hf.it n ⟨dc, k0, k1, hb⟩).k0).toNat), .int .u32 (((Hf.it n ⟨dc, k0, k1, hb⟩).k1).toNat), .bool ((Hf.it n ⟨dc, k0, k1, hb⟩).b)], .int .i64 0]) F (Sx.d_callR (vs := [.agg #[.int .u64 ((Wd.hi dc).toNat), .int .u64 ((Wd.lo dc).toNat), .int .u32 k0.toNat, .int .u32 k1.toNat, .bool hb], .int .i64 n]) (mk := fun v => .tuple #[v, .agg #[.int .u64 ((Wd.hi ((Hf.it n ⟨dc, k0, k1, hb⟩).c)).toNat), .int .u64 ((Wd.lo ((Hf.it n ⟨dc, k0, k1, hb⟩).c)).toNat), .int .u32 (((Hf.it n ⟨dc, k0, k1, hb⟩).k0).toNat), .int .u32 (((Hf.it n ⟨dc, k0, k1, hb⟩).k1).toNat), .bool ((Hf.it n ⟨dc, k0, k1, hb⟩).b)], .int .i64 0]) if_46 F H rfl rfl (hwordsN_c n (by omega) dc k0 k1 hb _)) (Sx.wanted_none rfl _) rfl (by decide) (fun v1 A w F (H : Sx.Own w0 _ [(true, g2, [.int .u64 ((Wd.hi x).toNat), .int .u64 ((Wd.lo x).toNat)]), (true, g1, [.int .u64 ((Wd.hi dc).toNat), .int .u64 ((Wd.lo dc).toNat), .int .u32 k0.toNat, .int .u32 k1.toNat, .bool hb])] [⟨true, v1, 22, 1, n, (u64s (Hf.words n ⟨dc, k0, k1, hb⟩))⟩]) => ?_)
  refine Sx.sv F (Sx.d_move F (Or.inl rfl) rfl) (Sx.wanted_none rfl _) rfl (by decide) (fun A F => ?_)
  refine Sx.sv F (Sx.d_extract (v := v1) F rfl rfl rfl) (Sx.wanted_none rfl _) rfl (by decide) (fun A F => ?_)
  refine Sx.sv F (Sx.d_extract (v := .agg #[.int .u64 ((Wd.hi ((Hf.it n ⟨dc, k0, k1, hb⟩).c)).toNat), .int .u64 ((Wd.lo ((Hf.it n ⟨dc, k0, k1, hb⟩).c)).toNat), .int .u32 (((Hf.it n ⟨dc, k0, k1, hb⟩).k0).toNat), .int .u32 (((Hf.it n ⟨dc, k0, k1, hb⟩).k1).toNat), .bool ((Hf.it n ⟨dc, k0, k1, hb⟩).b)]) F rfl rfl rfl) (Sx.wanted_none rfl _) rfl (by decide) (fun A F => ?_)
  refine Sx.sv F (Sx.d_extract (v := .int .i64 0) F rfl rfl rfl) (Sx.wanted_none rfl _) rfl (by decide) (fun A F => ?_)
  refine Sx.sb F (Sx.d_alloc H rfl [.int .u64 ((Wd.hi 0#128).toNat), .int .u64 ((Wd.lo 0#128).toNat), .int .u32 0, .int .u32 0, .bool false] zero_82) (Sx.wanted_none rfl _) rfl (by decide) (fun g3 A w F H => ?_)
  refine Sx.sv F (Sx.d_move F (Or.inr rfl) rfl) (Sx.wanted_none rfl _) rfl (by decide) (fun A F => ?_)
  refine Sx.ss F (Sx.d_store (i := 0) (xs := [.int .u64 ((Wd.hi ((Hf.it n ⟨dc, k0, k1, hb⟩).c)).toNat), .int .u64 ((Wd.lo ((Hf.it n ⟨dc, k0, k1, hb⟩).c)).toNat), .int .u32 (((Hf.it n ⟨dc, k0, k1, hb⟩).k0).toNat), .int .u32 (((Hf.it n ⟨dc, k0, k1, hb⟩).k1).toNat), .bool ((Hf.it n ⟨dc, k0, k1, hb⟩).b)]) (us := [.int .u64 ((Wd.hi ((Hf.it n ⟨dc, k0, k1, hb⟩).c)).toNat), .int .u64 ((Wd.lo ((Hf.it n ⟨dc, k0, k1, hb⟩).c)).toNat), .int .u32 (((Hf.it n ⟨dc, k0, k1, hb⟩).k0).toNat), .int .u32 (((Hf.it n ⟨dc, k0, k1, hb⟩).k1).toNat), .bool ((Hf.it n ⟨dc, k0, k1, hb⟩).b)]) sz_82 F H rfl rfl rfl rfl rfl rfl rfl (Nat.le_of_ble_eq_true rfl) rfl) (Sx.wanted_none rfl _) rfl (fun A w F (H : Sx.Own w0 _ [(true, g3, [.int .u64 ((Wd.hi ((Hf.it n ⟨dc, k0, k1, hb⟩).c)).toNat), .int .u64 ((Wd.lo ((Hf.it n ⟨dc, k0, k1, hb⟩).c)).toNat), .int .u32 (((Hf.it n ⟨dc, k0, k1, hb⟩).k0).toNat), .int .u32 (((Hf.it n ⟨dc, k0, k1, hb⟩).k1).toNat), .bool ((Hf.it n ⟨dc, k0, k1, hb⟩).b)]), (true, g2, [.int .u64 ((Wd.hi x).toNat), .int .u64 ((Wd.lo x).toNat)]), (true, g1, [.int .u64 ((Wd.hi dc).toNat), .int .u64 ((Wd.lo dc).toNat), .int .u32 k0.toNat, .int .u32 k1.toNat, .bool hb])] [⟨true, v1, 22, 1, n, (u64s (Hf.words n ⟨dc, k0, k1, hb⟩))⟩]) => ?_)
  refine Sx.sv F (Sx.d_move F (Or.inr rfl) rfl) (Sx.wanted_none rfl _) rfl (by decide) (fun A F => ?_)
  refine Sx.nil ?_
  refine hK4 _ _ ?_
  refine Sx.seq (fun K5 hK5 => ?_)
  refine Sx.seq (fun K6 hK6 => ?_)
  refine Sx.plain ?_
  refine Sx.sv F (Sx.d_move F (Or.inl rfl) rfl) (Sx.wanted_none rfl _) rfl (by decide) (fun A F => ?_)
  refine Sx.sv F (Sx.d_bin (v := .bool false) F rfl rfl rfl (Sx.i_lt (decide_eq_false (by omega)))) (Sx.wanted_none rfl _) rfl (by decide) (fun A F => ?_)
  refine Sx.sv F (Sx.d_move F (Or.inl rfl) rfl) (Sx.wanted_none rfl _) rfl (by decide) (fun A F => ?_)
  refine Sx.sv F (Sx.d_move F (Or.inl rfl) rfl) (Sx.wanted_on rfl (Sx.guard_known (d := 23) (b := false) F rfl rfl) rfl) rfl (by decide) (fun A F => ?_)
  refine Sx.sv F (Sx.d_bin (v := .bool false) F rfl rfl rfl (Sx.i_gt (decide_eq_false (by omega)))) (Sx.wanted_on rfl (Sx.guard_known (d := 23) (b := false) F rfl rfl) rfl) rfl (by decide) (fun A F => ?_)
  refine Sx.sv F (Sx.d_pickF (v := .bool false) F rfl rfl rfl) (Sx.wanted_none rfl _) rfl (by decide) (fun A F => ?_)
  refine Sx.nil ?_
  refine hK6 _ _ ?_
  refine Sx.condF F rfl ?_
  refine Sx.seq (fun K7 hK7 => ?_)
  refine Sx.plain ?_
  refine Sx.sr (mk := fun v => v) F (Sx.d_litR (qs := #[]) (cs := #[]) (E := 22) (z := 1) F H rfl rfl (fun _ => by kernel_rfl) rfl (by decide)) (Sx.wanted_none rfl _) rfl (by decide) (fun v2 A w F (H : Sx.Own w0 _ [(true, g3, [.int .u64 ((Wd.hi ((Hf.it n ⟨dc, k0, k1, hb⟩).c)).toNat), .int .u64 ((Wd.lo ((Hf.it n ⟨dc, k0, k1, hb⟩).c)).toNat), .int .u32 (((Hf.it n ⟨dc, k0, k1, hb⟩).k0).toNat), .int .u32 (((Hf.it n ⟨dc, k0, k1, hb⟩).k1).toNat), .bool ((Hf.it n ⟨dc, k0, k1, hb⟩).b)]), (true, g2, [.int .u64 ((Wd.hi x).toNat), .int .u64 ((Wd.lo x).toNat)]), (true, g1, [.int .u64 ((Wd.hi dc).toNat), .int .u64 ((Wd.lo dc).toNat), .int .u32 k0.toNat, .int .u32 k1.toNat, .bool hb])] [⟨true, v2, 22, 1, 0, []⟩, ⟨true, v1, 22, 1, n, (u64s (Hf.words n ⟨dc, k0, k1, hb⟩))⟩]) => ?_)
  refine Sx.sv F (Sx.d_load (i := 2) (xs := [.int .u64 ((Wd.hi dc).toNat), .int .u64 ((Wd.lo dc).toNat), .int .u32 k0.toNat, .int .u32 k1.toNat, .bool hb]) rw_82 F H rfl rfl rfl rfl rfl) (Sx.wanted_none rfl _) rfl (by decide) (fun A F => ?_)
  refine Sx.sw F (Sx.d_call (vs := [.agg #[.int .u64 ((Wd.hi dc).toNat), .int .u64 ((Wd.lo dc).toNat), .int .u32 k0.toNat, .int .u32 k1.toNat, .bool hb]]) (v := .agg #[.int .u64 ((Wd.hi dc).toNat), .int .u64 ((Wd.lo dc).toNat), .int .u32 k0.toNat, .int .u32 k1.toNat, .bool hb]) if_47 F H rfl rfl (own12_c dc k0 k1 hb _)) (Sx.wanted_none rfl _) rfl (by decide) (fun A w F H => ?_)
  refine Sx.sb F (Sx.d_alloc H rfl [.int .u64 ((Wd.hi 0#128).toNat), .int .u64 ((Wd.lo 0#128).toNat), .int .u32 0, .int .u32 0, .bool false] zero_86) (Sx.wanted_none rfl _) rfl (by decide) (fun g4 A w F H => ?_)
  refine Sx.sv F (Sx.d_move F (Or.inr rfl) rfl) (Sx.wanted_none rfl _) rfl (by decide) (fun A F => ?_)
  refine Sx.ss F (Sx.d_store (i := 0) (xs := [.int .u64 ((Wd.hi dc).toNat), .int .u64 ((Wd.lo dc).toNat), .int .u32 k0.toNat, .int .u32 k1.toNat, .bool hb]) (us := [.int .u64 ((Wd.hi dc).toNat), .int .u64 ((Wd.lo dc).toNat), .int .u32 k0.toNat, .int .u32 k1.toNat, .bool hb]) sz_86 F H rfl rfl rfl rfl rfl rfl rfl (Nat.le_of_ble_eq_true rfl) rfl) (Sx.wanted_none rfl _) rfl (fun A w F (H : Sx.Own w0 _ [(true, g4, [.int .u64 ((Wd.hi dc).toNat), .int .u64 ((Wd.lo dc).toNat), .int .u32 k0.toNat, .int .u32 k1.toNat, .bool hb]), (true, g3, [.int .u64 ((Wd.hi ((Hf.it n ⟨dc, k0, k1, hb⟩).c)).toNat), .int .u64 ((Wd.lo ((Hf.it n ⟨dc, k0, k1, hb⟩).c)).toNat), .int .u32 (((Hf.it n ⟨dc, k0, k1, hb⟩).k0).toNat), .int .u32 (((Hf.it n ⟨dc, k0, k1, hb⟩).k1).toNat), .bool ((Hf.it n ⟨dc, k0, k1, hb⟩).b)]), (true, g2, [.int .u64 ((Wd.hi x).toNat), .int .u64 ((Wd.lo x).toNat)]), (true, g1, [.int .u64 ((Wd.hi dc).toNat), .int .u64 ((Wd.lo dc).toNat), .int .u32 k0.toNat, .int .u32 k1.toNat, .bool hb])] [⟨true, v2, 22, 1, 0, []⟩, ⟨true, v1, 22, 1, n, (u64s (Hf.words n ⟨dc, k0, k1, hb⟩))⟩]) => ?_)
  refine Sx.nil ?_
  refine hK7 _ _ ?_
  refine Sx.seq (fun K8 hK8 => ?_)
  refine Sx.seq (fun K9 hK9 => ?_)
  refine Sx.plain ?_
  refine Sx.sv F (Sx.d_move F (Or.inl rfl) rfl) (Sx.wanted_none rfl _) rfl (by decide) (fun A F => ?_)
  refine Sx.sv F (Sx.d_move F (Or.inl rfl) rfl) (Sx.wanted_none rfl _) rfl (by decide) (fun A F => ?_)
  refine Sx.nil ?_
  refine hK9 _ _ ?_
  refine wp_block ?_
  refine Sx.loop (fun q A w => ∃ (j : Nat) (v : Value), q = n - j ∧ j ≤ n ∧ Sx.Fr 102 A [(1, .int .i64 n), (3, .pointer (some ⟨g1, 0, none⟩)), (5, .pointer (some ⟨g2, 0, none⟩)), (7, v1), (8, .pointer (some ⟨g3, 0, none⟩)), (9, .int .i64 0), (10, v), (11, .pointer (some ⟨g4, 0, none⟩)), (42, .int .i64 n), (43, .int .i64 j)] ∧ Sx.Own w0 w [(true, g4, [.int .u64 ((Wd.hi ((Hf.it j ⟨dc, k0, k1, hb⟩).c)).toNat), .int .u64 ((Wd.lo ((Hf.it j ⟨dc, k0, k1, hb⟩).c)).toNat), .int .u32 (((Hf.it j ⟨dc, k0, k1, hb⟩).k0).toNat), .int .u32 (((Hf.it j ⟨dc, k0, k1, hb⟩).k1).toNat), .bool ((Hf.it j ⟨dc, k0, k1, hb⟩).b)]), (true, g3, [.int .u64 ((Wd.hi ((Hf.it n ⟨dc, k0, k1, hb⟩).c)).toNat), .int .u64 ((Wd.lo ((Hf.it n ⟨dc, k0, k1, hb⟩).c)).toNat), .int .u32 (((Hf.it n ⟨dc, k0, k1, hb⟩).k0).toNat), .int .u32 (((Hf.it n ⟨dc, k0, k1, hb⟩).k1).toNat), .bool ((Hf.it n ⟨dc, k0, k1, hb⟩).b)]), (true, g2, [.int .u64 ((Wd.hi x).toNat), .int .u64 ((Wd.lo x).toNat)]), (true, g1, [.int .u64 ((Wd.hi dc).toNat), .int .u64 ((Wd.lo dc).toNat), .int .u32 k0.toNat, .int .u32 k1.toNat, .bool hb])] [⟨true, v, 22, 1, j, (u64s (Hf.words j ⟨dc, k0, k1, hb⟩))⟩, ⟨true, v1, 22, 1, n, (u64s (Hf.words n ⟨dc, k0, k1, hb⟩))⟩]) n ⟨0, v2, rfl, Nat.zero_le _, F.to ⟨rfl, rfl, rfl, rfl, rfl, rfl, rfl, rfl, rfl, rfl, trivial⟩, H⟩ ?_
  rintro q A w ⟨j, v, rfl, hj, F, H⟩
  by_cases hlt : j < n
  · skip
    refine Sx.seq (fun K10 hK10 => ?_)
    refine Sx.plain ?_
    refine Sx.sv F (Sx.d_bin (v := .bool true) F rfl rfl rfl (Sx.i_lt (decide_eq_true (by omega)))) (Sx.wanted_none rfl _) rfl (by decide) (fun A F => ?_)
    refine Sx.nil ?_
    refine hK10 _ _ ?_
    refine Sx.seq (fun K11 hK11 => ?_)
    refine Sx.condT F rfl ?_
    refine wp_skip ?_
    refine hK11 _ _ ?_
    refine Sx.seq (fun K12 hK12 => ?_)
    refine wp_block ?_
    refine Sx.seq (fun K13 hK13 => ?_)
    refine Sx.plain ?_
    refine Sx.sv F (Sx.d_move F (Or.inl rfl) rfl) (Sx.wanted_none rfl _) rfl (by decide) (fun A F => ?_)
    refine Sx.sv F (Sx.d_load (i := 0) (xs := [.int .u64 ((Wd.hi ((Hf.it j ⟨dc, k0, k1, hb⟩).c)).toNat), .int .u64 ((Wd.lo ((Hf.it j ⟨dc, k0, k1, hb⟩).c)).toNat), .int .u32 (((Hf.it j ⟨dc, k0, k1, hb⟩).k0).toNat), .int .u32 (((Hf.it j ⟨dc, k0, k1, hb⟩).k1).toNat), .bool ((Hf.it j ⟨dc, k0, k1, hb⟩).b)]) rw_86 F H rfl rfl rfl rfl rfl) (Sx.wanted_none rfl _) rfl (by decide) (fun A F => ?_)
    refine Sx.sw F (Sx.d_call (vs := [.agg #[.int .u64 ((Wd.hi ((Hf.it j ⟨dc, k0, k1, hb⟩).c)).toNat), .int .u64 ((Wd.lo ((Hf.it j ⟨dc, k0, k1, hb⟩).c)).toNat), .int .u32 (((Hf.it j ⟨dc, k0, k1, hb⟩).k0).toNat), .int .u32 (((Hf.it j ⟨dc, k0, k1, hb⟩).k1).toNat), .bool ((Hf.it j ⟨dc, k0, k1, hb⟩).b)]]) (v := .int .u64 ((Hf.word ⟨((Hf.it j ⟨dc, k0, k1, hb⟩).c), ((Hf.it j ⟨dc, k0, k1, hb⟩).k0), ((Hf.it j ⟨dc, k0, k1, hb⟩).k1), (Hf.it j ⟨dc, k0, k1, hb⟩).b⟩).toNat)) if_48 F H rfl rfl (rword12_c ((Hf.it j ⟨dc, k0, k1, hb⟩).c) ((Hf.it j ⟨dc, k0, k1, hb⟩).k0) ((Hf.it j ⟨dc, k0, k1, hb⟩).k1) ((Hf.it j ⟨dc, k0, k1, hb⟩).b) _)) (Sx.wanted_none rfl _) rfl (by decide) (fun A w F H => ?_)
    refine Sx.sg (mk := fun g => .slice (some ⟨g, 0, none⟩) 1 1) F (Sx.d_lit (qs := #[(0, .int .u64 ((Hf.word ⟨((Hf.it j ⟨dc, k0, k1, hb⟩).c), ((Hf.it j ⟨dc, k0, k1, hb⟩).k0), ((Hf.it j ⟨dc, k0, k1, hb⟩).k1), (Hf.it j ⟨dc, k0, k1, hb⟩).b⟩).toNat))]) (cs := #[.int .u64 ((Hf.word ⟨((Hf.it j ⟨dc, k0, k1, hb⟩).c), ((Hf.it j ⟨dc, k0, k1, hb⟩).k0), ((Hf.it j ⟨dc, k0, k1, hb⟩).k1), (Hf.it j ⟨dc, k0, k1, hb⟩).b⟩).toNat)]) (E := 22) F H rfl rfl (fun _ => by kernel_rfl)) (Sx.wanted_none rfl _) rfl (by decide) (fun g5 A w F (H : Sx.Own w0 _ [(true, g5, [.int .u64 ((Hf.word ⟨((Hf.it j ⟨dc, k0, k1, hb⟩).c), ((Hf.it j ⟨dc, k0, k1, hb⟩).k0), ((Hf.it j ⟨dc, k0, k1, hb⟩).k1), (Hf.it j ⟨dc, k0, k1, hb⟩).b⟩).toNat)]), (true, g4, [.int .u64 ((Wd.hi ((Hf.it j ⟨dc, k0, k1, hb⟩).c)).toNat), .int .u64 ((Wd.lo ((Hf.it j ⟨dc, k0, k1, hb⟩).c)).toNat), .int .u32 (((Hf.it j ⟨dc, k0, k1, hb⟩).k0).toNat), .int .u32 (((Hf.it j ⟨dc, k0, k1, hb⟩).k1).toNat), .bool ((Hf.it j ⟨dc, k0, k1, hb⟩).b)]), (true, g3, [.int .u64 ((Wd.hi ((Hf.it n ⟨dc, k0, k1, hb⟩).c)).toNat), .int .u64 ((Wd.lo ((Hf.it n ⟨dc, k0, k1, hb⟩).c)).toNat), .int .u32 (((Hf.it n ⟨dc, k0, k1, hb⟩).k0).toNat), .int .u32 (((Hf.it n ⟨dc, k0, k1, hb⟩).k1).toNat), .bool ((Hf.it n ⟨dc, k0, k1, hb⟩).b)]), (true, g2, [.int .u64 ((Wd.hi x).toNat), .int .u64 ((Wd.lo x).toNat)]), (true, g1, [.int .u64 ((Wd.hi dc).toNat), .int .u64 ((Wd.lo dc).toNat), .int .u32 k0.toNat, .int .u32 k1.toNat, .bool hb])] [⟨true, v, 22, 1, j, (u64s (Hf.words j ⟨dc, k0, k1, hb⟩))⟩, ⟨true, v1, 22, 1, n, (u64s (Hf.words n ⟨dc, k0, k1, hb⟩))⟩]) => ?_)
    refine Sx.sr (mk := fun v => v) F (Sx.d_append (i := 0) (j := 0) el_67 F H rfl rfl rfl rfl rfl rfl rfl rfl (by omega) (by decide)) (Sx.wanted_none rfl _) rfl (by decide) (fun v3 A w F (H : Sx.Own w0 _ [(true, g5, [.int .u64 ((Hf.word ⟨((Hf.it j ⟨dc, k0, k1, hb⟩).c), ((Hf.it j ⟨dc, k0, k1, hb⟩).k0), ((Hf.it j ⟨dc, k0, k1, hb⟩).k1), (Hf.it j ⟨dc, k0, k1, hb⟩).b⟩).toNat)]), (true, g4, [.int .u64 ((Wd.hi ((Hf.it j ⟨dc, k0, k1, hb⟩).c)).toNat), .int .u64 ((Wd.lo ((Hf.it j ⟨dc, k0, k1, hb⟩).c)).toNat), .int .u32 (((Hf.it j ⟨dc, k0, k1, hb⟩).k0).toNat), .int .u32 (((Hf.it j ⟨dc, k0, k1, hb⟩).k1).toNat), .bool ((Hf.it j ⟨dc, k0, k1, hb⟩).b)]), (true, g3, [.int .u64 ((Wd.hi ((Hf.it n ⟨dc, k0, k1, hb⟩).c)).toNat), .int .u64 ((Wd.lo ((Hf.it n ⟨dc, k0, k1, hb⟩).c)).toNat), .int .u32 (((Hf.it n ⟨dc, k0, k1, hb⟩).k0).toNat), .int .u32 (((Hf.it n ⟨dc, k0, k1, hb⟩).k1).toNat), .bool ((Hf.it n ⟨dc, k0, k1, hb⟩).b)]), (true, g2, [.int .u64 ((Wd.hi x).toNat), .int .u64 ((Wd.lo x).toNat)]), (true, g1, [.int .u64 ((Wd.hi dc).toNat), .int .u64 ((Wd.lo dc).toNat), .int .u32 k0.toNat, .int .u32 k1.toNat, .bool hb])] [⟨true, v3, 22, 1, (j + 1), (u64s (Hf.words j ⟨dc, k0, k1, hb⟩)) ++ [.int .u64 ((Hf.word ⟨((Hf.it j ⟨dc, k0, k1, hb⟩).c), ((Hf.it j ⟨dc, k0, k1, hb⟩).k0), ((Hf.it j ⟨dc, k0, k1, hb⟩).k1), (Hf.it j ⟨dc, k0, k1, hb⟩).b⟩).toNat)]⟩, ⟨true, v1, 22, 1, n, (u64s (Hf.words n ⟨dc, k0, k1, hb⟩))⟩]) => ?_)
    refine Sx.sv F (Sx.d_move F (Or.inr rfl) rfl) (Sx.wanted_none rfl _) rfl (by decide) (fun A F => ?_)
    refine Sx.nil ?_
    refine hK13 _ _ ?_
    refine Sx.plain ?_
    refine Sx.sv F (Sx.d_load (i := 1) (xs := [.int .u64 ((Wd.hi ((Hf.it j ⟨dc, k0, k1, hb⟩).c)).toNat), .int .u64 ((Wd.lo ((Hf.it j ⟨dc, k0, k1, hb⟩).c)).toNat), .int .u32 (((Hf.it j ⟨dc, k0, k1, hb⟩).k0).toNat), .int .u32 (((Hf.it j ⟨dc, k0, k1, hb⟩).k1).toNat), .bool ((Hf.it j ⟨dc, k0, k1, hb⟩).b)]) rw_86 F H rfl rfl rfl rfl rfl) (Sx.wanted_none rfl _) rfl (by decide) (fun A F => ?_)
    refine Sx.sw F (Sx.d_call (vs := [.agg #[.int .u64 ((Wd.hi ((Hf.it j ⟨dc, k0, k1, hb⟩).c)).toNat), .int .u64 ((Wd.lo ((Hf.it j ⟨dc, k0, k1, hb⟩).c)).toNat), .int .u32 (((Hf.it j ⟨dc, k0, k1, hb⟩).k0).toNat), .int .u32 (((Hf.it j ⟨dc, k0, k1, hb⟩).k1).toNat), .bool ((Hf.it j ⟨dc, k0, k1, hb⟩).b)]]) (v := .agg #[.int .u64 ((Wd.hi ((Hf.step ⟨((Hf.it j ⟨dc, k0, k1, hb⟩).c), ((Hf.it j ⟨dc, k0, k1, hb⟩).k0), ((Hf.it j ⟨dc, k0, k1, hb⟩).k1), (Hf.it j ⟨dc, k0, k1, hb⟩).b⟩).c)).toNat), .int .u64 ((Wd.lo ((Hf.step ⟨((Hf.it j ⟨dc, k0, k1, hb⟩).c), ((Hf.it j ⟨dc, k0, k1, hb⟩).k0), ((Hf.it j ⟨dc, k0, k1, hb⟩).k1), (Hf.it j ⟨dc, k0, k1, hb⟩).b⟩).c)).toNat), .int .u32 (((Hf.step ⟨((Hf.it j ⟨dc, k0, k1, hb⟩).c), ((Hf.it j ⟨dc, k0, k1, hb⟩).k0), ((Hf.it j ⟨dc, k0, k1, hb⟩).k1), (Hf.it j ⟨dc, k0, k1, hb⟩).b⟩).k0).toNat), .int .u32 (((Hf.step ⟨((Hf.it j ⟨dc, k0, k1, hb⟩).c), ((Hf.it j ⟨dc, k0, k1, hb⟩).k0), ((Hf.it j ⟨dc, k0, k1, hb⟩).k1), (Hf.it j ⟨dc, k0, k1, hb⟩).b⟩).k1).toNat), .bool ((Hf.step ⟨((Hf.it j ⟨dc, k0, k1, hb⟩).c), ((Hf.it j ⟨dc, k0, k1, hb⟩).k0), ((Hf.it j ⟨dc, k0, k1, hb⟩).k1), (Hf.it j ⟨dc, k0, k1, hb⟩).b⟩).b)]) if_49 F H rfl rfl (rstep12_c ((Hf.it j ⟨dc, k0, k1, hb⟩).c) ((Hf.it j ⟨dc, k0, k1, hb⟩).k0) ((Hf.it j ⟨dc, k0, k1, hb⟩).k1) ((Hf.it j ⟨dc, k0, k1, hb⟩).b) _)) (Sx.wanted_none rfl _) rfl (by decide) (fun A w F H => ?_)
    refine Sx.ss F (Sx.d_store (i := 1) (xs := [.int .u64 ((Wd.hi ((Hf.step ⟨((Hf.it j ⟨dc, k0, k1, hb⟩).c), ((Hf.it j ⟨dc, k0, k1, hb⟩).k0), ((Hf.it j ⟨dc, k0, k1, hb⟩).k1), (Hf.it j ⟨dc, k0, k1, hb⟩).b⟩).c)).toNat), .int .u64 ((Wd.lo ((Hf.step ⟨((Hf.it j ⟨dc, k0, k1, hb⟩).c), ((Hf.it j ⟨dc, k0, k1, hb⟩).k0), ((Hf.it j ⟨dc, k0, k1, hb⟩).k1), (Hf.it j ⟨dc, k0, k1, hb⟩).b⟩).c)).toNat), .int .u32 (((Hf.step ⟨((Hf.it j ⟨dc, k0, k1, hb⟩).c), ((Hf.it j ⟨dc, k0, k1, hb⟩).k0), ((Hf.it j ⟨dc, k0, k1, hb⟩).k1), (Hf.it j ⟨dc, k0, k1, hb⟩).b⟩).k0).toNat), .int .u32 (((Hf.step ⟨((Hf.it j ⟨dc, k0, k1, hb⟩).c), ((Hf.it j ⟨dc, k0, k1, hb⟩).k0), ((Hf.it j ⟨dc, k0, k1, hb⟩).k1), (Hf.it j ⟨dc, k0, k1, hb⟩).b⟩).k1).toNat), .bool ((Hf.step ⟨((Hf.it j ⟨dc, k0, k1, hb⟩).c), ((Hf.it j ⟨dc, k0, k1, hb⟩).k0), ((Hf.it j ⟨dc, k0, k1, hb⟩).k1), (Hf.it j ⟨dc, k0, k1, hb⟩).b⟩).b)]) (us := [.int .u64 ((Wd.hi ((Hf.step ⟨((Hf.it j ⟨dc, k0, k1, hb⟩).c), ((Hf.it j ⟨dc, k0, k1, hb⟩).k0), ((Hf.it j ⟨dc, k0, k1, hb⟩).k1), (Hf.it j ⟨dc, k0, k1, hb⟩).b⟩).c)).toNat), .int .u64 ((Wd.lo ((Hf.step ⟨((Hf.it j ⟨dc, k0, k1, hb⟩).c), ((Hf.it j ⟨dc, k0, k1, hb⟩).k0), ((Hf.it j ⟨dc, k0, k1, hb⟩).k1), (Hf.it j ⟨dc, k0, k1, hb⟩).b⟩).c)).toNat), .int .u32 (((Hf.step ⟨((Hf.it j ⟨dc, k0, k1, hb⟩).c), ((Hf.it j ⟨dc, k0, k1, hb⟩).k0), ((Hf.it j ⟨dc, k0, k1, hb⟩).k1), (Hf.it j ⟨dc, k0, k1, hb⟩).b⟩).k0).toNat), .int .u32 (((Hf.step ⟨((Hf.it j ⟨dc, k0, k1, hb⟩).c), ((Hf.it j ⟨dc, k0, k1, hb⟩).k0), ((Hf.it j ⟨dc, k0, k1, hb⟩).k1), (Hf.it j ⟨dc, k0, k1, hb⟩).b⟩).k1).toNat), .bool ((Hf.step ⟨((Hf.it j ⟨dc, k0, k1, hb⟩).c), ((Hf.it j ⟨dc, k0, k1, hb⟩).k0), ((Hf.it j ⟨dc, k0, k1, hb⟩).k1), (Hf.it j ⟨dc, k0, k1, hb⟩).b⟩).b)]) sz_86 F H rfl rfl rfl rfl rfl rfl rfl (Nat.le_of_ble_eq_true rfl) rfl) (Sx.wanted_none rfl _) rfl (fun A w F (H : Sx.Own w0 _ [(true, g5, [.int .u64 ((Hf.word ⟨((Hf.it j ⟨dc, k0, k1, hb⟩).c), ((Hf.it j ⟨dc, k0, k1, hb⟩).k0), ((Hf.it j ⟨dc, k0, k1, hb⟩).k1), (Hf.it j ⟨dc, k0, k1, hb⟩).b⟩).toNat)]), (true, g4, [.int .u64 ((Wd.hi ((Hf.step ⟨((Hf.it j ⟨dc, k0, k1, hb⟩).c), ((Hf.it j ⟨dc, k0, k1, hb⟩).k0), ((Hf.it j ⟨dc, k0, k1, hb⟩).k1), (Hf.it j ⟨dc, k0, k1, hb⟩).b⟩).c)).toNat), .int .u64 ((Wd.lo ((Hf.step ⟨((Hf.it j ⟨dc, k0, k1, hb⟩).c), ((Hf.it j ⟨dc, k0, k1, hb⟩).k0), ((Hf.it j ⟨dc, k0, k1, hb⟩).k1), (Hf.it j ⟨dc, k0, k1, hb⟩).b⟩).c)).toNat), .int .u32 (((Hf.step ⟨((Hf.it j ⟨dc, k0, k1, hb⟩).c), ((Hf.it j ⟨dc, k0, k1, hb⟩).k0), ((Hf.it j ⟨dc, k0, k1, hb⟩).k1), (Hf.it j ⟨dc, k0, k1, hb⟩).b⟩).k0).toNat), .int .u32 (((Hf.step ⟨((Hf.it j ⟨dc, k0, k1, hb⟩).c), ((Hf.it j ⟨dc, k0, k1, hb⟩).k0), ((Hf.it j ⟨dc, k0, k1, hb⟩).k1), (Hf.it j ⟨dc, k0, k1, hb⟩).b⟩).k1).toNat), .bool ((Hf.step ⟨((Hf.it j ⟨dc, k0, k1, hb⟩).c), ((Hf.it j ⟨dc, k0, k1, hb⟩).k0), ((Hf.it j ⟨dc, k0, k1, hb⟩).k1), (Hf.it j ⟨dc, k0, k1, hb⟩).b⟩).b)]), (true, g3, [.int .u64 ((Wd.hi ((Hf.it n ⟨dc, k0, k1, hb⟩).c)).toNat), .int .u64 ((Wd.lo ((Hf.it n ⟨dc, k0, k1, hb⟩).c)).toNat), .int .u32 (((Hf.it n ⟨dc, k0, k1, hb⟩).k0).toNat), .int .u32 (((Hf.it n ⟨dc, k0, k1, hb⟩).k1).toNat), .bool ((Hf.it n ⟨dc, k0, k1, hb⟩).b)]), (true, g2, [.int .u64 ((Wd.hi x).toNat), .int .u64 ((Wd.lo x).toNat)]), (true, g1, [.int .u64 ((Wd.hi dc).toNat), .int .u64 ((Wd.lo dc).toNat), .int .u32 k0.toNat, .int .u32 k1.toNat, .bool hb])] [⟨true, v3, 22, 1, (j + 1), (u64s (Hf.words j ⟨dc, k0, k1, hb⟩)) ++ [.int .u64 ((Hf.word ⟨((Hf.it j ⟨dc, k0, k1, hb⟩).c), ((Hf.it j ⟨dc, k0, k1, hb⟩).k0), ((Hf.it j ⟨dc, k0, k1, hb⟩).k1), (Hf.it j ⟨dc, k0, k1, hb⟩).b⟩).toNat)]⟩, ⟨true, v1, 22, 1, n, (u64s (Hf.words n ⟨dc, k0, k1, hb⟩))⟩]) => ?_)
    refine Sx.nil ?_
    refine hK12 _ _ ?_
    refine Sx.plain ?_
    refine Sx.sv F (Sx.d_bin (v := .int .i64 (j + 1 : Nat)) F rfl rfl rfl (Sx.i_addN rfl (Sx.in_i64 _ (by omega)))) (Sx.wanted_none rfl _) rfl (by decide) (fun A F => ?_)
    refine Sx.sv F (Sx.d_move F (Or.inl rfl) rfl) (Sx.wanted_none rfl _) rfl (by decide) (fun A F => ?_)
    refine Sx.nil ?_
    try dsimp only [Exit.then]
    exact ⟨n - (j + 1), by omega, j + 1, v3, rfl, by omega, F.to ⟨rfl, rfl, rfl, rfl, rfl, rfl, rfl, rfl, rfl, rfl, trivial⟩, by rw [Hf.words_succ, u64s_snoc]; exact H.to' [1, 2, 3, 4] [0, 1] (by decide) (by decide) rfl rfl⟩
  · obtain rfl : j = n := by omega
    refine Sx.seq (fun K14 hK14 => ?_)
    refine Sx.plain ?_
    refine Sx.sv F (Sx.d_bin (v := .bool false) F rfl rfl rfl (Sx.i_lt (by simp))) (Sx.wanted_none rfl _) rfl (by decide) (fun A F => ?_)
    refine Sx.nil ?_
    refine hK14 _ _ ?_
    refine Sx.seq (fun K15 hK15 => ?_)
    refine Sx.condF F rfl ?_
    refine wp_exit ?_
    try dsimp only [Exit.then, Exit.jump]
    refine Sx.exit_here ?_
    refine hK8 _ _ ?_
    refine Sx.seq (fun K16 hK16 => ?_)
    have F := Sx.Fr.to F (kv' := [(1, .int .i64 j), (3, .pointer (some ⟨g1, 0, none⟩)), (5, .pointer (some ⟨g2, 0, none⟩)), (7, v1), (8, .pointer (some ⟨g3, 0, none⟩)), (9, .int .i64 0), (10, v), (11, .pointer (some ⟨g4, 0, none⟩)), (42, .int .i64 j), (43, .int .i64 j), (44, .bool false)]) ⟨rfl, rfl, rfl, rfl, rfl, rfl, rfl, rfl, rfl, rfl, rfl, trivial⟩
    refine Sx.drawn F (by kernel_rfl) (by kernel_rfl) (by kernel_rfl) [some (.int .i64 0), some (.bool false), some (.bool false), some (v1), some (v), some (.bool true), some (.bool false), some (.bool false), some (.bool false), some (.agg #[.int .u64 ((Wd.hi ((Hf.it j ⟨dc, k0, k1, hb⟩).c)).toNat), .int .u64 ((Wd.lo ((Hf.it j ⟨dc, k0, k1, hb⟩).c)).toNat), .int .u32 (((Hf.it j ⟨dc, k0, k1, hb⟩).k0).toNat), .int .u32 (((Hf.it j ⟨dc, k0, k1, hb⟩).k1).toNat), .bool ((Hf.it j ⟨dc, k0, k1, hb⟩).b)]), some (.agg #[.int .u64 ((Wd.hi ((Hf.it j ⟨dc, k0, k1, hb⟩).c)).toNat), .int .u64 ((Wd.lo ((Hf.it j ⟨dc, k0, k1, hb⟩).c)).toNat), .int .u32 (((Hf.it j ⟨dc, k0, k1, hb⟩).k0).toNat), .int .u32 (((Hf.it j ⟨dc, k0, k1, hb⟩).k1).toNat), .bool ((Hf.it j ⟨dc, k0, k1, hb⟩).b)]), some (.agg #[.int .u64 ((Wd.hi ((Hf.it j ⟨dc, k0, k1, hb⟩).c)).toNat), .int .u64 ((Wd.lo ((Hf.it j ⟨dc, k0, k1, hb⟩).c)).toNat), .int .u32 (((Hf.it j ⟨dc, k0, k1, hb⟩).k0).toNat), .int .u32 (((Hf.it j ⟨dc, k0, k1, hb⟩).k1).toNat), .bool ((Hf.it j ⟨dc, k0, k1, hb⟩).b)]), some (.bool false), some (.bool false)] (fun L A w => Sx.Own w0 w [(true, g4, [.int .u64 ((Wd.hi ((Hf.it j ⟨dc, k0, k1, hb⟩).c)).toNat), .int .u64 ((Wd.lo ((Hf.it j ⟨dc, k0, k1, hb⟩).c)).toNat), .int .u32 (((Hf.it j ⟨dc, k0, k1, hb⟩).k0).toNat), .int .u32 (((Hf.it j ⟨dc, k0, k1, hb⟩).k1).toNat), .bool ((Hf.it j ⟨dc, k0, k1, hb⟩).b)]), (true, g3, [.int .u64 ((Wd.hi ((Hf.it j ⟨dc, k0, k1, hb⟩).c)).toNat), .int .u64 ((Wd.lo ((Hf.it j ⟨dc, k0, k1, hb⟩).c)).toNat), .int .u32 (((Hf.it j ⟨dc, k0, k1, hb⟩).k0).toNat), .int .u32 (((Hf.it j ⟨dc, k0, k1, hb⟩).k1).toNat), .bool ((Hf.it j ⟨dc, k0, k1, hb⟩).b)]), (true, g2, [.int .u64 ((Wd.hi x).toNat), .int .u64 ((Wd.lo x).toNat)]), (true, g1, [.int .u64 ((Wd.hi dc).toNat), .int .u64 ((Wd.lo dc).toNat), .int .u32 k0.toNat, .int .u32 k1.toNat, .bool hb])] [⟨true, v, 22, 1, j, (u64s (Hf.words j ⟨dc, k0, k1, hb⟩))⟩, ⟨true, v1, 22, 1, j, (u64s (Hf.words j ⟨dc, k0, k1, hb⟩))⟩]) H.drew ?_ ?_
    · refine ⟨?_, ?_, ?_, ?_, ?_, ?_, ?_, ?_, ?_, ?_, ?_, ?_, ?_, ?_, trivial⟩
      · show Sx.StepAt _ _ _ _ _ _ _ 0
        intro L A w up hun hd F H
        have F := Sx.Fr.to F (kv' := [(9, .int .i64 0)]) ⟨rfl, trivial⟩
        refine Sx.step_on rfl (Sx.d_move F (Or.inl rfl) rfl) ?_
        rintro xv w' ⟨hx, rfl⟩
        exact ⟨(fun cv hc => hx.trans (Option.some.inj (Option.some.inj hc))), H⟩
      · show Sx.StepAt _ _ _ _ _ _ _ 1
        intro L A w up hun hd F H
        have F := Sx.Fr.to F (kv' := [(53, .int .i64 0)]) ⟨rfl, trivial⟩
        refine Sx.step_on rfl (Sx.d_bin (v := .bool false) F rfl rfl rfl (Sx.i_ne (by decide))) ?_
        rintro xv w' ⟨hx, rfl⟩
        exact ⟨(fun cv hc => hx.trans (Option.some.inj (Option.some.inj hc))), H⟩
      · show Sx.StepAt _ _ _ _ _ _ _ 2
        intro L A w up hun hd F H
        have F := Sx.Fr.to F (kv' := [(54, .bool false)]) ⟨rfl, trivial⟩
        refine Sx.step_on rfl (Sx.d_move F (Or.inl rfl) rfl) ?_
        rintro xv w' ⟨hx, rfl⟩
        exact ⟨(fun cv hc => hx.trans (Option.some.inj (Option.some.inj hc))), H⟩
      · show Sx.StepAt _ _ _ _ _ _ _ 3
        intro L A w up hun hd F H
        have F := Sx.Fr.to F (kv' := [(7, v1), (55, .bool false)]) ⟨rfl, rfl, trivial⟩
        refine Sx.step_ong rfl (Sx.guard_known (d := 55) (b := false) F rfl rfl) rfl (Sx.d_move F (Or.inl rfl) rfl) ?_
        rintro xv w' ⟨hx, rfl⟩
        exact ⟨(fun cv hc => hx.trans (Option.some.inj (Option.some.inj hc))), H⟩
      · show Sx.StepAt _ _ _ _ _ _ _ 4
        intro L A w up hun hd F H
        have F := Sx.Fr.to F (kv' := [(10, v), (55, .bool false)]) ⟨rfl, rfl, trivial⟩
        refine Sx.step_ong rfl (Sx.guard_known (d := 55) (b := false) F rfl rfl) rfl (Sx.d_move F (Or.inl rfl) rfl) ?_
        rintro xv w' ⟨hx, rfl⟩
        exact ⟨(fun cv hc => hx.trans (Option.some.inj (Option.some.inj hc))), H⟩
      · show Sx.StepAt _ _ _ _ _ _ _ 5
        intro L A w up hun hd F H
        have F := Sx.Fr.to F (kv' := [(56, v1), (57, v), (55, .bool false)]) ⟨rfl, rfl, rfl, trivial⟩
        refine Sx.step_ong rfl (Sx.guard_known (d := 55) (b := false) F rfl rfl) rfl (Sx.d_call (vs := [v1, v]) (v := .bool true) if_42 F H rfl rfl (words_same (Hf.words j ⟨dc, k0, k1, hb⟩) (by rw [Hf.words_length]; omega) _ _ _ _ _ (Sx.rowEq (H.row 1 _ rfl rfl) rfl rfl rfl ((Hf.words_length j ⟨dc, k0, k1, hb⟩).symm) (rfl)) (Sx.rowEq (H.row 0 _ rfl rfl) rfl rfl rfl ((Hf.words_length j ⟨dc, k0, k1, hb⟩).symm) (rfl)))) ?_
        rintro xv w' ⟨hx, H⟩
        exact ⟨(fun cv hc => hx.trans (Option.some.inj (Option.some.inj hc))), H⟩
      · show Sx.StepAt _ _ _ _ _ _ _ 6
        intro L A w up hun hd F H
        have F := Sx.Fr.to F (kv' := [(58, .bool true), (55, .bool false)]) ⟨rfl, rfl, trivial⟩
        refine Sx.step_ong rfl (Sx.guard_known (d := 55) (b := false) F rfl rfl) rfl (Sx.d_un (v := .bool false) F rfl rfl rfl) ?_
        rintro xv w' ⟨hx, rfl⟩
        exact ⟨(fun cv hc => hx.trans (Option.some.inj (Option.some.inj hc))), H⟩
      · show Sx.StepAt _ _ _ _ _ _ _ 7
        intro L A w up hun hd F H
        have F := Sx.Fr.to F (kv' := [(55, .bool false), (59, .bool false)]) ⟨rfl, rfl, trivial⟩
        refine Sx.step_on rfl (Sx.d_pickF (v := .bool false) F rfl rfl rfl) ?_
        rintro xv w' ⟨hx, rfl⟩
        exact ⟨(fun cv hc => hx.trans (Option.some.inj (Option.some.inj hc))), H⟩
      · show Sx.StepAt _ _ _ _ _ _ _ 8
        intro L A w up hun hd F H
        have F := Sx.Fr.to F (kv' := [(60, .bool false)]) ⟨rfl, trivial⟩
        refine Sx.step_on rfl (Sx.d_move F (Or.inl rfl) rfl) ?_
        rintro xv w' ⟨hx, rfl⟩
        exact ⟨(fun cv hc => hx.trans (Option.some.inj (Option.some.inj hc))), H⟩
      · show Sx.StepAt _ _ _ _ _ _ _ 9
        intro L A w up hun hd F H
        have F := Sx.Fr.to F (kv' := [(8, .pointer (some ⟨g3, 0, none⟩)), (61, .bool false)]) ⟨rfl, rfl, trivial⟩
        refine Sx.step_ong rfl (Sx.guard_known (d := 61) (b := false) F rfl rfl) rfl (Sx.d_load (i := 1) (xs := [.int .u64 ((Wd.hi ((Hf.it j ⟨dc, k0, k1, hb⟩).c)).toNat), .int .u64 ((Wd.lo ((Hf.it j ⟨dc, k0, k1, hb⟩).c)).toNat), .int .u32 (((Hf.it j ⟨dc, k0, k1, hb⟩).k0).toNat), .int .u32 (((Hf.it j ⟨dc, k0, k1, hb⟩).k1).toNat), .bool ((Hf.it j ⟨dc, k0, k1, hb⟩).b)]) rw_82 F H rfl rfl rfl rfl rfl) ?_
        rintro xv w' ⟨hx, rfl⟩
        exact ⟨(fun cv hc => hx.trans (Option.some.inj (Option.some.inj hc))), H⟩
      · show Sx.StepAt _ _ _ _ _ _ _ 10
        intro L A w up hun hd F H
        have F := Sx.Fr.to F (kv' := [(62, .agg #[.int .u64 ((Wd.hi ((Hf.it j ⟨dc, k0, k1, hb⟩).c)).toNat), .int .u64 ((Wd.lo ((Hf.it j ⟨dc, k0, k1, hb⟩).c)).toNat), .int .u32 (((Hf.it j ⟨dc, k0, k1, hb⟩).k0).toNat), .int .u32 (((Hf.it j ⟨dc, k0, k1, hb⟩).k1).toNat), .bool ((Hf.it j ⟨dc, k0, k1, hb⟩).b)]), (61, .bool false)]) ⟨rfl, rfl, trivial⟩
        refine Sx.step_ong rfl (Sx.guard_known (d := 61) (b := false) F rfl rfl) rfl (Sx.d_call (vs := [.agg #[.int .u64 ((Wd.hi ((Hf.it j ⟨dc, k0, k1, hb⟩).c)).toNat), .int .u64 ((Wd.lo ((Hf.it j ⟨dc, k0, k1, hb⟩).c)).toNat), .int .u32 (((Hf.it j ⟨dc, k0, k1, hb⟩).k0).toNat), .int .u32 (((Hf.it j ⟨dc, k0, k1, hb⟩).k1).toNat), .bool ((Hf.it j ⟨dc, k0, k1, hb⟩).b)]]) (v := .agg #[.int .u64 ((Wd.hi ((Hf.it j ⟨dc, k0, k1, hb⟩).c)).toNat), .int .u64 ((Wd.lo ((Hf.it j ⟨dc, k0, k1, hb⟩).c)).toNat), .int .u32 (((Hf.it j ⟨dc, k0, k1, hb⟩).k0).toNat), .int .u32 (((Hf.it j ⟨dc, k0, k1, hb⟩).k1).toNat), .bool ((Hf.it j ⟨dc, k0, k1, hb⟩).b)]) if_47 F H rfl rfl (own12_c ((Hf.it j ⟨dc, k0, k1, hb⟩).c) ((Hf.it j ⟨dc, k0, k1, hb⟩).k0) ((Hf.it j ⟨dc, k0, k1, hb⟩).k1) ((Hf.it j ⟨dc, k0, k1, hb⟩).b) _)) ?_
        rintro xv w' ⟨hx, H⟩
        exact ⟨(fun cv hc => hx.trans (Option.some.inj (Option.some.inj hc))), H⟩
      · show Sx.StepAt _ _ _ _ _ _ _ 11
        intro L A w up hun hd F H
        have F := Sx.Fr.to F (kv' := [(11, .pointer (some ⟨g4, 0, none⟩)), (61, .bool false)]) ⟨rfl, rfl, trivial⟩
        refine Sx.step_ong rfl (Sx.guard_known (d := 61) (b := false) F rfl rfl) rfl (Sx.d_load (i := 0) (xs := [.int .u64 ((Wd.hi ((Hf.it j ⟨dc, k0, k1, hb⟩).c)).toNat), .int .u64 ((Wd.lo ((Hf.it j ⟨dc, k0, k1, hb⟩).c)).toNat), .int .u32 (((Hf.it j ⟨dc, k0, k1, hb⟩).k0).toNat), .int .u32 (((Hf.it j ⟨dc, k0, k1, hb⟩).k1).toNat), .bool ((Hf.it j ⟨dc, k0, k1, hb⟩).b)]) rw_86 F H rfl rfl rfl rfl rfl) ?_
        rintro xv w' ⟨hx, rfl⟩
        exact ⟨(fun cv hc => hx.trans (Option.some.inj (Option.some.inj hc))), H⟩
      · show Sx.StepAt _ _ _ _ _ _ _ 12
        intro L A w up hun hd F H
        have F := Sx.Fr.to F (kv' := [(63, .agg #[.int .u64 ((Wd.hi ((Hf.it j ⟨dc, k0, k1, hb⟩).c)).toNat), .int .u64 ((Wd.lo ((Hf.it j ⟨dc, k0, k1, hb⟩).c)).toNat), .int .u32 (((Hf.it j ⟨dc, k0, k1, hb⟩).k0).toNat), .int .u32 (((Hf.it j ⟨dc, k0, k1, hb⟩).k1).toNat), .bool ((Hf.it j ⟨dc, k0, k1, hb⟩).b)]), (64, .agg #[.int .u64 ((Wd.hi ((Hf.it j ⟨dc, k0, k1, hb⟩).c)).toNat), .int .u64 ((Wd.lo ((Hf.it j ⟨dc, k0, k1, hb⟩).c)).toNat), .int .u32 (((Hf.it j ⟨dc, k0, k1, hb⟩).k0).toNat), .int .u32 (((Hf.it j ⟨dc, k0, k1, hb⟩).k1).toNat), .bool ((Hf.it j ⟨dc, k0, k1, hb⟩).b)]), (61, .bool false)]) ⟨rfl, rfl, rfl, trivial⟩
        refine Sx.step_ong rfl (Sx.guard_known (d := 61) (b := false) F rfl rfl) rfl (Sx.d_bin (v := .bool false) F rfl rfl rfl (Sx.i_neG (by rw [show Sx.eqbH ((Hf.it j ⟨dc, k0, k1, hb⟩).c) ((Hf.it j ⟨dc, k0, k1, hb⟩).k0) ((Hf.it j ⟨dc, k0, k1, hb⟩).k1) ((Hf.it j ⟨dc, k0, k1, hb⟩).b) ((Hf.it j ⟨dc, k0, k1, hb⟩).c) ((Hf.it j ⟨dc, k0, k1, hb⟩).k0) ((Hf.it j ⟨dc, k0, k1, hb⟩).k1) ((Hf.it j ⟨dc, k0, k1, hb⟩).b) = true from decide_eq_true ⟨rfl, rfl, rfl, rfl⟩] <;> rfl))) ?_
        rintro xv w' ⟨hx, rfl⟩
        exact ⟨(fun cv hc => hx.trans (Option.some.inj (Option.some.inj hc))), H⟩
      · show Sx.StepAt _ _ _ _ _ _ _ 13
        intro L A w up hun hd F H
        have F := Sx.Fr.to F (kv' := [(61, .bool false), (65, .bool false)]) ⟨rfl, rfl, trivial⟩
        refine Sx.step_on rfl (Sx.d_pickF (v := .bool false) F rfl rfl rfl) ?_
        rintro xv w' ⟨hx, rfl⟩
        exact ⟨(fun cv hc => hx.trans (Option.some.inj (Option.some.inj hc))), H⟩
    · intro L A w hL F H
      have F := Sx.Fr.to F (kv' := [(1, .int .i64 j), (3, .pointer (some ⟨g1, 0, none⟩)), (5, .pointer (some ⟨g2, 0, none⟩)), (7, v1), (8, .pointer (some ⟨g3, 0, none⟩)), (9, .int .i64 0), (10, v), (11, .pointer (some ⟨g4, 0, none⟩)), (42, .int .i64 j), (43, .int .i64 j), (44, .bool false), (66, .bool false)]) ⟨rfl, rfl, rfl, rfl, rfl, rfl, rfl, rfl, rfl, rfl, rfl, rfl, trivial⟩
      refine hK16 _ _ ?_
      refine Sx.condF F rfl ?_
      refine wp_skip ?_
      refine hK5 _ _ ?_
      refine Sx.seq (fun K17 hK17 => ?_)
      have F := Sx.Fr.to F (kv' := [(1, .int .i64 j), (3, .pointer (some ⟨g1, 0, none⟩)), (5, .pointer (some ⟨g2, 0, none⟩)), (7, v1), (8, .pointer (some ⟨g3, 0, none⟩)), (9, .int .i64 0), (10, v), (11, .pointer (some ⟨g4, 0, none⟩)), (42, .int .i64 j), (43, .int .i64 j), (44, .bool false), (66, .bool false)]) ⟨rfl, rfl, rfl, rfl, rfl, rfl, rfl, rfl, rfl, rfl, rfl, rfl, trivial⟩
      refine Sx.drawn F (by kernel_rfl) (by kernel_rfl) (by kernel_rfl) [some (.agg #[.int .u64 ((Wd.hi dc).toNat), .int .u64 ((Wd.lo dc).toNat), .int .u32 k0.toNat, .int .u32 k1.toNat, .bool hb]), some (.int .u64 ((Hf.word ⟨dc, k0, k1, hb⟩).toNat)), some (.agg #[.int .u64 ((Wd.hi dc).toNat), .int .u64 ((Wd.lo dc).toNat), .int .u32 k0.toNat, .int .u32 k1.toNat, .bool hb]), some (.agg #[.int .u64 ((Wd.hi dc).toNat), .int .u64 ((Wd.lo dc).toNat), .int .u32 k0.toNat, .int .u32 k1.toNat, .bool hb]), some (.int .u64 ((Hf.word ⟨dc, k0, k1, hb⟩).toNat)), some (.bool true), some (.bool true), some (.agg #[.int .u64 ((Wd.hi dc).toNat), .int .u64 ((Wd.lo dc).toNat), .int .u32 k0.toNat, .int .u32 k1.toNat, .bool hb]), some (.agg #[.int .u64 ((Wd.hi ((Hf.step ⟨dc, k0, k1, hb⟩).c)).toNat), .int .u64 ((Wd.lo ((Hf.step ⟨dc, k0, k1, hb⟩).c)).toNat), .int .u32 (((Hf.step ⟨dc, k0, k1, hb⟩).k0).toNat), .int .u32 (((Hf.step ⟨dc, k0, k1, hb⟩).k1).toNat), .bool ((Hf.step ⟨dc, k0, k1, hb⟩).b)]), some (.agg #[.int .u64 ((Wd.hi ((Hf.step ⟨dc, k0, k1, hb⟩).c)).toNat), .int .u64 ((Wd.lo ((Hf.step ⟨dc, k0, k1, hb⟩).c)).toNat), .int .u32 (((Hf.step ⟨dc, k0, k1, hb⟩).k0).toNat), .int .u32 (((Hf.step ⟨dc, k0, k1, hb⟩).k1).toNat), .bool ((Hf.step ⟨dc, k0, k1, hb⟩).b)]), some (.agg #[.int .u64 ((Wd.hi dc).toNat), .int .u64 ((Wd.lo dc).toNat), .int .u32 k0.toNat, .int .u32 k1.toNat, .bool hb]), some (.agg #[.int .u64 ((Wd.hi dc).toNat), .int .u64 ((Wd.lo dc).toNat), .int .u32 k0.toNat, .int .u32 k1.toNat, .bool hb]), some (.agg #[.int .u64 ((Wd.hi ((Hf.step ⟨dc, k0, k1, hb⟩).c)).toNat), .int .u64 ((Wd.lo ((Hf.step ⟨dc, k0, k1, hb⟩).c)).toNat), .int .u32 (((Hf.step ⟨dc, k0, k1, hb⟩).k0).toNat), .int .u32 (((Hf.step ⟨dc, k0, k1, hb⟩).k1).toNat), .bool ((Hf.step ⟨dc, k0, k1, hb⟩).b)]), some (.bool true), some (.bool true), some (.bool true), some (.agg #[.int .u64 ((Wd.hi dc).toNat), .int .u64 ((Wd.lo dc).toNat), .int .u32 k0.toNat, .int .u32 k1.toNat, .bool hb]), some (.agg #[.int .u64 ((Wd.hi x).toNat), .int .u64 ((Wd.lo x).toNat)]), some (.agg #[.int .u64 ((Wd.hi ((Hf.jump ⟨dc, k0, k1, hb⟩ x).c)).toNat), .int .u64 ((Wd.lo ((Hf.jump ⟨dc, k0, k1, hb⟩ x).c)).toNat), .int .u32 (((Hf.jump ⟨dc, k0, k1, hb⟩ x).k0).toNat), .int .u32 (((Hf.jump ⟨dc, k0, k1, hb⟩ x).k1).toNat), .bool ((Hf.jump ⟨dc, k0, k1, hb⟩ x).b)]), some (.agg #[.int .u64 ((Wd.hi ((Hf.jump ⟨dc, k0, k1, hb⟩ x).c)).toNat), .int .u64 ((Wd.lo ((Hf.jump ⟨dc, k0, k1, hb⟩ x).c)).toNat), .int .u32 (((Hf.jump ⟨dc, k0, k1, hb⟩ x).k0).toNat), .int .u32 (((Hf.jump ⟨dc, k0, k1, hb⟩ x).k1).toNat), .bool ((Hf.jump ⟨dc, k0, k1, hb⟩ x).b)]), some (.agg #[.int .u64 ((Wd.hi dc).toNat), .int .u64 ((Wd.lo dc).toNat), .int .u32 k0.toNat, .int .u32 k1.toNat, .bool hb]), some (.agg #[.int .u64 ((Wd.hi dc).toNat), .int .u64 ((Wd.lo dc).toNat), .int .u32 k0.toNat, .int .u32 k1.toNat, .bool hb]), some (.agg #[.int .u64 ((Wd.hi x).toNat), .int .u64 ((Wd.lo x).toNat)]), some (.agg #[.int .u64 ((Wd.hi ((Hf.jump ⟨dc, k0, k1, hb⟩ x).c)).toNat), .int .u64 ((Wd.lo ((Hf.jump ⟨dc, k0, k1, hb⟩ x).c)).toNat), .int .u32 (((Hf.jump ⟨dc, k0, k1, hb⟩ x).k0).toNat), .int .u32 (((Hf.jump ⟨dc, k0, k1, hb⟩ x).k1).toNat), .bool ((Hf.jump ⟨dc, k0, k1, hb⟩ x).b)]), some (.bool true), some (.bool true), some (.bool true), some (.pointer (some ⟨g1, 0, none⟩)), some (.agg #[.int .u64 ((Wd.hi dc).toNat), .int .u64 ((Wd.lo dc).toNat)]), some (.agg #[.int .u32 ((Hf.low (Wd.lo dc)).toNat), .int .u32 ((Hf.top (Wd.lo dc)).toNat), .int .u32 ((Hf.low (Wd.hi dc)).toNat), .int .u32 ((Hf.top (Wd.hi dc)).toNat)]), some (.pointer (some ⟨g1, 0, none⟩)), some (.agg #[.int .u64 ((Wd.hi dc).toNat), .int .u64 ((Wd.lo dc).toNat)]), some (.agg #[.int .u32 ((Hf.low (Wd.lo dc)).toNat), .int .u32 ((Hf.top (Wd.lo dc)).toNat), .int .u32 ((Hf.low (Wd.hi dc)).toNat), .int .u32 ((Hf.top (Wd.hi dc)).toNat)]), some (.bool true), some (.bool true), some (.bool true)] (fun L A w => Sx.Own w0 w [(true, g4, [.int .u64 ((Wd.hi ((Hf.it j ⟨dc, k0, k1, hb⟩).c)).toNat), .int .u64 ((Wd.lo ((Hf.it j ⟨dc, k0, k1, hb⟩).c)).toNat), .int .u32 (((Hf.it j ⟨dc, k0, k1, hb⟩).k0).toNat), .int .u32 (((Hf.it j ⟨dc, k0, k1, hb⟩).k1).toNat), .bool ((Hf.it j ⟨dc, k0, k1, hb⟩).b)]), (true, g3, [.int .u64 ((Wd.hi ((Hf.it j ⟨dc, k0, k1, hb⟩).c)).toNat), .int .u64 ((Wd.lo ((Hf.it j ⟨dc, k0, k1, hb⟩).c)).toNat), .int .u32 (((Hf.it j ⟨dc, k0, k1, hb⟩).k0).toNat), .int .u32 (((Hf.it j ⟨dc, k0, k1, hb⟩).k1).toNat), .bool ((Hf.it j ⟨dc, k0, k1, hb⟩).b)]), (true, g2, [.int .u64 ((Wd.hi x).toNat), .int .u64 ((Wd.lo x).toNat)]), (true, g1, [.int .u64 ((Wd.hi dc).toNat), .int .u64 ((Wd.lo dc).toNat), .int .u32 k0.toNat, .int .u32 k1.toNat, .bool hb])] [⟨true, v, 22, 1, j, (u64s (Hf.words j ⟨dc, k0, k1, hb⟩))⟩, ⟨true, v1, 22, 1, j, (u64s (Hf.words j ⟨dc, k0, k1, hb⟩))⟩]) H.drew ?_ ?_
      · refine ⟨?_, ?_, ?_, ?_, ?_, ?_, ?_, ?_, ?_, ?_, ?_, ?_, ?_, ?_, ?_, ?_, ?_, ?_, ?_, ?_, ?_, ?_, ?_, ?_, ?_, ?_, ?_, ?_, ?_, ?_, ?_, ?_, ?_, ?_, ?_, ?_, trivial⟩
        · show Sx.StepAt _ _ _ _ _ _ _ 0
          intro L A w up hun hd F H
          have F := Sx.Fr.to F (kv' := [(3, .pointer (some ⟨g1, 0, none⟩))]) ⟨rfl, trivial⟩
          refine Sx.step_on rfl (Sx.d_load (i := 3) (xs := [.int .u64 ((Wd.hi dc).toNat), .int .u64 ((Wd.lo dc).toNat), .int .u32 k0.toNat, .int .u32 k1.toNat, .bool hb]) rw_82 F H rfl rfl rfl rfl rfl) ?_
          rintro xv w' ⟨hx, rfl⟩
          exact ⟨(fun cv hc => hx.trans (Option.some.inj (Option.some.inj hc))), H⟩
        · show Sx.StepAt _ _ _ _ _ _ _ 1
          intro L A w up hun hd F H
          have F := Sx.Fr.to F (kv' := [(67, .agg #[.int .u64 ((Wd.hi dc).toNat), .int .u64 ((Wd.lo dc).toNat), .int .u32 k0.toNat, .int .u32 k1.toNat, .bool hb])]) ⟨rfl, trivial⟩
          refine Sx.step_on rfl (Sx.d_call (vs := [.agg #[.int .u64 ((Wd.hi dc).toNat), .int .u64 ((Wd.lo dc).toNat), .int .u32 k0.toNat, .int .u32 k1.toNat, .bool hb]]) (v := .int .u64 ((Hf.word ⟨dc, k0, k1, hb⟩).toNat)) if_50 F H rfl rfl (hword_c dc k0 k1 hb _)) ?_
          rintro xv w' ⟨hx, H⟩
          exact ⟨(fun cv hc => hx.trans (Option.some.inj (Option.some.inj hc))), H⟩
        · show Sx.StepAt _ _ _ _ _ _ _ 2
          intro L A w up hun hd F H
          have F := Sx.Fr.to F (kv' := [(3, .pointer (some ⟨g1, 0, none⟩))]) ⟨rfl, trivial⟩
          refine Sx.step_on rfl (Sx.d_load (i := 3) (xs := [.int .u64 ((Wd.hi dc).toNat), .int .u64 ((Wd.lo dc).toNat), .int .u32 k0.toNat, .int .u32 k1.toNat, .bool hb]) rw_82 F H rfl rfl rfl rfl rfl) ?_
          rintro xv w' ⟨hx, rfl⟩
          exact ⟨(fun cv hc => hx.trans (Option.some.inj (Option.some.inj hc))), H⟩
        · show Sx.StepAt _ _ _ _ _ _ _ 3
          intro L A w up hun hd F H
          have F := Sx.Fr.to F (kv' := [(69, .agg #[.int .u64 ((Wd.hi dc).toNat), .int .u64 ((Wd.lo dc).toNat), .int .u32 k0.toNat, .int .u32 k1.toNat, .bool hb])]) ⟨rfl, trivial⟩
          refine Sx.step_on rfl (Sx.d_call (vs := [.agg #[.int .u64 ((Wd.hi dc).toNat), .int .u64 ((Wd.lo dc).toNat), .int .u32 k0.toNat, .int .u32 k1.toNat, .bool hb]]) (v := .agg #[.int .u64 ((Wd.hi dc).toNat), .int .u64 ((Wd.lo dc).toNat), .int .u32 k0.toNat, .int .u32 k1.toNat, .bool hb]) if_47 F H rfl rfl (own12_c dc k0 k1 hb _)) ?_
          rintro xv w' ⟨hx, H⟩
          exact ⟨(fun cv hc => hx.trans (Option.some.inj (Option.some.inj hc))), H⟩
        · show Sx.StepAt _ _ _ _ _ _ _ 4
          intro L A w up hun hd F H
          have F := Sx.Fr.to F (kv' := [(70, .agg #[.int .u64 ((Wd.hi dc).toNat), .int .u64 ((Wd.lo dc).toNat), .int .u32 k0.toNat, .int .u32 k1.toNat, .bool hb])]) ⟨rfl, trivial⟩
          refine Sx.step_on rfl (Sx.d_call (vs := [.agg #[.int .u64 ((Wd.hi dc).toNat), .int .u64 ((Wd.lo dc).toNat), .int .u32 k0.toNat, .int .u32 k1.toNat, .bool hb]]) (v := .int .u64 ((Hf.word ⟨dc, k0, k1, hb⟩).toNat)) if_48 F H rfl rfl (rword12_c dc k0 k1 hb _)) ?_
          rintro xv w' ⟨hx, H⟩
          exact ⟨(fun cv hc => hx.trans (Option.some.inj (Option.some.inj hc))), H⟩
        · show Sx.StepAt _ _ _ _ _ _ _ 5
          intro L A w up hun hd F H
          have F := Sx.Fr.to F (kv' := [(68, .int .u64 ((Hf.word ⟨dc, k0, k1, hb⟩).toNat)), (71, .int .u64 ((Hf.word ⟨dc, k0, k1, hb⟩).toNat))]) ⟨rfl, rfl, trivial⟩
          refine Sx.step_on rfl (Sx.d_bin (v := .bool true) F rfl rfl rfl (Sx.i_eq (by simp))) ?_
          rintro xv w' ⟨hx, rfl⟩
          exact ⟨(fun cv hc => hx.trans (Option.some.inj (Option.some.inj hc))), H⟩
        · show Sx.StepAt _ _ _ _ _ _ _ 6
          intro L A w up hun hd F H
          have F := Sx.Fr.to F (kv' := [(72, .bool true)]) ⟨rfl, trivial⟩
          refine Sx.step_on rfl (Sx.d_move F (Or.inl rfl) rfl) ?_
          rintro xv w' ⟨hx, rfl⟩
          exact ⟨(fun cv hc => hx.trans (Option.some.inj (Option.some.inj hc))), H⟩
        · show Sx.StepAt _ _ _ _ _ _ _ 7
          intro L A w up hun hd F H
          have F := Sx.Fr.to F (kv' := [(3, .pointer (some ⟨g1, 0, none⟩)), (73, .bool true)]) ⟨rfl, rfl, trivial⟩
          refine Sx.step_ong rfl (Sx.guard_known (d := 73) (b := true) F rfl rfl) rfl (Sx.d_load (i := 3) (xs := [.int .u64 ((Wd.hi dc).toNat), .int .u64 ((Wd.lo dc).toNat), .int .u32 k0.toNat, .int .u32 k1.toNat, .bool hb]) rw_82 F H rfl rfl rfl rfl rfl) ?_
          rintro xv w' ⟨hx, rfl⟩
          exact ⟨(fun cv hc => hx.trans (Option.some.inj (Option.some.inj hc))), H⟩
        · show Sx.StepAt _ _ _ _ _ _ _ 8
          intro L A w up hun hd F H
          have F := Sx.Fr.to F (kv' := [(74, .agg #[.int .u64 ((Wd.hi dc).toNat), .int .u64 ((Wd.lo dc).toNat), .int .u32 k0.toNat, .int .u32 k1.toNat, .bool hb]), (73, .bool true)]) ⟨rfl, rfl, trivial⟩
          refine Sx.step_ong rfl (Sx.guard_known (d := 73) (b := true) F rfl rfl) rfl (Sx.d_call (vs := [.agg #[.int .u64 ((Wd.hi dc).toNat), .int .u64 ((Wd.lo dc).toNat), .int .u32 k0.toNat, .int .u32 k1.toNat, .bool hb]]) (v := .agg #[.int .u64 ((Wd.hi ((Hf.step ⟨dc, k0, k1, hb⟩).c)).toNat), .int .u64 ((Wd.lo ((Hf.step ⟨dc, k0, k1, hb⟩).c)).toNat), .int .u32 (((Hf.step ⟨dc, k0, k1, hb⟩).k0).toNat), .int .u32 (((Hf.step ⟨dc, k0, k1, hb⟩).k1).toNat), .bool ((Hf.step ⟨dc, k0, k1, hb⟩).b)]) if_51 F H rfl rfl (hstep_c dc k0 k1 hb _)) ?_
          rintro xv w' ⟨hx, H⟩
          exact ⟨(fun cv hc => hx.trans (Option.some.inj (Option.some.inj hc))), H⟩
        · show Sx.StepAt _ _ _ _ _ _ _ 9
          intro L A w up hun hd F H
          have F := Sx.Fr.to F (kv' := [(75, .agg #[.int .u64 ((Wd.hi ((Hf.step ⟨dc, k0, k1, hb⟩).c)).toNat), .int .u64 ((Wd.lo ((Hf.step ⟨dc, k0, k1, hb⟩).c)).toNat), .int .u32 (((Hf.step ⟨dc, k0, k1, hb⟩).k0).toNat), .int .u32 (((Hf.step ⟨dc, k0, k1, hb⟩).k1).toNat), .bool ((Hf.step ⟨dc, k0, k1, hb⟩).b)]), (73, .bool true)]) ⟨rfl, rfl, trivial⟩
          refine Sx.step_ong rfl (Sx.guard_known (d := 73) (b := true) F rfl rfl) rfl (Sx.d_call (vs := [.agg #[.int .u64 ((Wd.hi ((Hf.step ⟨dc, k0, k1, hb⟩).c)).toNat), .int .u64 ((Wd.lo ((Hf.step ⟨dc, k0, k1, hb⟩).c)).toNat), .int .u32 (((Hf.step ⟨dc, k0, k1, hb⟩).k0).toNat), .int .u32 (((Hf.step ⟨dc, k0, k1, hb⟩).k1).toNat), .bool ((Hf.step ⟨dc, k0, k1, hb⟩).b)]]) (v := .agg #[.int .u64 ((Wd.hi ((Hf.step ⟨dc, k0, k1, hb⟩).c)).toNat), .int .u64 ((Wd.lo ((Hf.step ⟨dc, k0, k1, hb⟩).c)).toNat), .int .u32 (((Hf.step ⟨dc, k0, k1, hb⟩).k0).toNat), .int .u32 (((Hf.step ⟨dc, k0, k1, hb⟩).k1).toNat), .bool ((Hf.step ⟨dc, k0, k1, hb⟩).b)]) if_47 F H rfl rfl (own12_c ((Hf.step ⟨dc, k0, k1, hb⟩).c) ((Hf.step ⟨dc, k0, k1, hb⟩).k0) ((Hf.step ⟨dc, k0, k1, hb⟩).k1) ((Hf.step ⟨dc, k0, k1, hb⟩).b) _)) ?_
          rintro xv w' ⟨hx, H⟩
          exact ⟨(fun cv hc => hx.trans (Option.some.inj (Option.some.inj hc))), H⟩
        · show Sx.StepAt _ _ _ _ _ _ _ 10
          intro L A w up hun hd F H
          have F := Sx.Fr.to F (kv' := [(3, .pointer (some ⟨g1, 0, none⟩)), (73, .bool true)]) ⟨rfl, rfl, trivial⟩
          refine Sx.step_ong rfl (Sx.guard_known (d := 73) (b := true) F rfl rfl) rfl (Sx.d_load (i := 3) (xs := [.int .u64 ((Wd.hi dc).toNat), .int .u64 ((Wd.lo dc).toNat), .int .u32 k0.toNat, .int .u32 k1.toNat, .bool hb]) rw_82 F H rfl rfl rfl rfl rfl) ?_
          rintro xv w' ⟨hx, rfl⟩
          exact ⟨(fun cv hc => hx.trans (Option.some.inj (Option.some.inj hc))), H⟩
        · show Sx.StepAt _ _ _ _ _ _ _ 11
          intro L A w up hun hd F H
          have F := Sx.Fr.to F (kv' := [(77, .agg #[.int .u64 ((Wd.hi dc).toNat), .int .u64 ((Wd.lo dc).toNat), .int .u32 k0.toNat, .int .u32 k1.toNat, .bool hb]), (73, .bool true)]) ⟨rfl, rfl, trivial⟩
          refine Sx.step_ong rfl (Sx.guard_known (d := 73) (b := true) F rfl rfl) rfl (Sx.d_call (vs := [.agg #[.int .u64 ((Wd.hi dc).toNat), .int .u64 ((Wd.lo dc).toNat), .int .u32 k0.toNat, .int .u32 k1.toNat, .bool hb]]) (v := .agg #[.int .u64 ((Wd.hi dc).toNat), .int .u64 ((Wd.lo dc).toNat), .int .u32 k0.toNat, .int .u32 k1.toNat, .bool hb]) if_47 F H rfl rfl (own12_c dc k0 k1 hb _)) ?_
          rintro xv w' ⟨hx, H⟩
          exact ⟨(fun cv hc => hx.trans (Option.some.inj (Option.some.inj hc))), H⟩
        · show Sx.StepAt _ _ _ _ _ _ _ 12
          intro L A w up hun hd F H
          have F := Sx.Fr.to F (kv' := [(78, .agg #[.int .u64 ((Wd.hi dc).toNat), .int .u64 ((Wd.lo dc).toNat), .int .u32 k0.toNat, .int .u32 k1.toNat, .bool hb]), (73, .bool true)]) ⟨rfl, rfl, trivial⟩
          refine Sx.step_ong rfl (Sx.guard_known (d := 73) (b := true) F rfl rfl) rfl (Sx.d_call (vs := [.agg #[.int .u64 ((Wd.hi dc).toNat), .int .u64 ((Wd.lo dc).toNat), .int .u32 k0.toNat, .int .u32 k1.toNat, .bool hb]]) (v := .agg #[.int .u64 ((Wd.hi ((Hf.step ⟨dc, k0, k1, hb⟩).c)).toNat), .int .u64 ((Wd.lo ((Hf.step ⟨dc, k0, k1, hb⟩).c)).toNat), .int .u32 (((Hf.step ⟨dc, k0, k1, hb⟩).k0).toNat), .int .u32 (((Hf.step ⟨dc, k0, k1, hb⟩).k1).toNat), .bool ((Hf.step ⟨dc, k0, k1, hb⟩).b)]) if_49 F H rfl rfl (rstep12_c dc k0 k1 hb _)) ?_
          rintro xv w' ⟨hx, H⟩
          exact ⟨(fun cv hc => hx.trans (Option.some.inj (Option.some.inj hc))), H⟩
        · show Sx.StepAt _ _ _ _ _ _ _ 13
          intro L A w up hun hd F H
          have F := Sx.Fr.to F (kv' := [(76, .agg #[.int .u64 ((Wd.hi ((Hf.step ⟨dc, k0, k1, hb⟩).c)).toNat), .int .u64 ((Wd.lo ((Hf.step ⟨dc, k0, k1, hb⟩).c)).toNat), .int .u32 (((Hf.step ⟨dc, k0, k1, hb⟩).k0).toNat), .int .u32 (((Hf.step ⟨dc, k0, k1, hb⟩).k1).toNat), .bool ((Hf.step ⟨dc, k0, k1, hb⟩).b)]), (79, .agg #[.int .u64 ((Wd.hi ((Hf.step ⟨dc, k0, k1, hb⟩).c)).toNat), .int .u64 ((Wd.lo ((Hf.step ⟨dc, k0, k1, hb⟩).c)).toNat), .int .u32 (((Hf.step ⟨dc, k0, k1, hb⟩).k0).toNat), .int .u32 (((Hf.step ⟨dc, k0, k1, hb⟩).k1).toNat), .bool ((Hf.step ⟨dc, k0, k1, hb⟩).b)]), (73, .bool true)]) ⟨rfl, rfl, rfl, trivial⟩
          refine Sx.step_ong rfl (Sx.guard_known (d := 73) (b := true) F rfl rfl) rfl (Sx.d_bin (v := .bool true) F rfl rfl rfl (Sx.i_eqG (decide_eq_true ⟨rfl, rfl, rfl, rfl⟩))) ?_
          rintro xv w' ⟨hx, rfl⟩
          exact ⟨(fun cv hc => hx.trans (Option.some.inj (Option.some.inj hc))), H⟩
        · show Sx.StepAt _ _ _ _ _ _ _ 14
          intro L A w up hun hd F H
          have F := Sx.Fr.to F (kv' := [(73, .bool true), (80, .bool true)]) ⟨rfl, rfl, trivial⟩
          refine Sx.step_on rfl (Sx.d_pickT (v := .bool true) F rfl rfl rfl) ?_
          rintro xv w' ⟨hx, rfl⟩
          exact ⟨(fun cv hc => hx.trans (Option.some.inj (Option.some.inj hc))), H⟩
        · show Sx.StepAt _ _ _ _ _ _ _ 15
          intro L A w up hun hd F H
          have F := Sx.Fr.to F (kv' := [(81, .bool true)]) ⟨rfl, trivial⟩
          refine Sx.step_on rfl (Sx.d_move F (Or.inl rfl) rfl) ?_
          rintro xv w' ⟨hx, rfl⟩
          exact ⟨(fun cv hc => hx.trans (Option.some.inj (Option.some.inj hc))), H⟩
        · show Sx.StepAt _ _ _ _ _ _ _ 16
          intro L A w up hun hd F H
          have F := Sx.Fr.to F (kv' := [(3, .pointer (some ⟨g1, 0, none⟩)), (82, .bool true)]) ⟨rfl, rfl, trivial⟩
          refine Sx.step_ong rfl (Sx.guard_known (d := 82) (b := true) F rfl rfl) rfl (Sx.d_load (i := 3) (xs := [.int .u64 ((Wd.hi dc).toNat), .int .u64 ((Wd.lo dc).toNat), .int .u32 k0.toNat, .int .u32 k1.toNat, .bool hb]) rw_82 F H rfl rfl rfl rfl rfl) ?_
          rintro xv w' ⟨hx, rfl⟩
          exact ⟨(fun cv hc => hx.trans (Option.some.inj (Option.some.inj hc))), H⟩
        · show Sx.StepAt _ _ _ _ _ _ _ 17
          intro L A w up hun hd F H
          have F := Sx.Fr.to F (kv' := [(5, .pointer (some ⟨g2, 0, none⟩)), (82, .bool true)]) ⟨rfl, rfl, trivial⟩
          refine Sx.step_ong rfl (Sx.guard_known (d := 82) (b := true) F rfl rfl) rfl (Sx.d_load (i := 2) (xs := [.int .u64 ((Wd.hi x).toNat), .int .u64 ((Wd.lo x).toNat)]) rw_24 F H rfl rfl rfl rfl rfl) ?_
          rintro xv w' ⟨hx, rfl⟩
          exact ⟨(fun cv hc => hx.trans (Option.some.inj (Option.some.inj hc))), H⟩
        · show Sx.StepAt _ _ _ _ _ _ _ 18
          intro L A w up hun hd F H
          have F := Sx.Fr.to F (kv' := [(83, .agg #[.int .u64 ((Wd.hi dc).toNat), .int .u64 ((Wd.lo dc).toNat), .int .u32 k0.toNat, .int .u32 k1.toNat, .bool hb]), (84, .agg #[.int .u64 ((Wd.hi x).toNat), .int .u64 ((Wd.lo x).toNat)]), (82, .bool true)]) ⟨rfl, rfl, rfl, trivial⟩
          refine Sx.step_ong rfl (Sx.guard_known (d := 82) (b := true) F rfl rfl) rfl (Sx.d_call (vs := [.agg #[.int .u64 ((Wd.hi dc).toNat), .int .u64 ((Wd.lo dc).toNat), .int .u32 k0.toNat, .int .u32 k1.toNat, .bool hb], .agg #[.int .u64 ((Wd.hi x).toNat), .int .u64 ((Wd.lo x).toNat)]]) (v := .agg #[.int .u64 ((Wd.hi ((Hf.jump ⟨dc, k0, k1, hb⟩ x).c)).toNat), .int .u64 ((Wd.lo ((Hf.jump ⟨dc, k0, k1, hb⟩ x).c)).toNat), .int .u32 (((Hf.jump ⟨dc, k0, k1, hb⟩ x).k0).toNat), .int .u32 (((Hf.jump ⟨dc, k0, k1, hb⟩ x).k1).toNat), .bool ((Hf.jump ⟨dc, k0, k1, hb⟩ x).b)]) if_52 F H rfl rfl (hjump_c dc k0 k1 hb x _)) ?_
          rintro xv w' ⟨hx, H⟩
          exact ⟨(fun cv hc => hx.trans (Option.some.inj (Option.some.inj hc))), H⟩
        · show Sx.StepAt _ _ _ _ _ _ _ 19
          intro L A w up hun hd F H
          have F := Sx.Fr.to F (kv' := [(85, .agg #[.int .u64 ((Wd.hi ((Hf.jump ⟨dc, k0, k1, hb⟩ x).c)).toNat), .int .u64 ((Wd.lo ((Hf.jump ⟨dc, k0, k1, hb⟩ x).c)).toNat), .int .u32 (((Hf.jump ⟨dc, k0, k1, hb⟩ x).k0).toNat), .int .u32 (((Hf.jump ⟨dc, k0, k1, hb⟩ x).k1).toNat), .bool ((Hf.jump ⟨dc, k0, k1, hb⟩ x).b)]), (82, .bool true)]) ⟨rfl, rfl, trivial⟩
          refine Sx.step_ong rfl (Sx.guard_known (d := 82) (b := true) F rfl rfl) rfl (Sx.d_call (vs := [.agg #[.int .u64 ((Wd.hi ((Hf.jump ⟨dc, k0, k1, hb⟩ x).c)).toNat), .int .u64 ((Wd.lo ((Hf.jump ⟨dc, k0, k1, hb⟩ x).c)).toNat), .int .u32 (((Hf.jump ⟨dc, k0, k1, hb⟩ x).k0).toNat), .int .u32 (((Hf.jump ⟨dc, k0, k1, hb⟩ x).k1).toNat), .bool ((Hf.jump ⟨dc, k0, k1, hb⟩ x).b)]]) (v := .agg #[.int .u64 ((Wd.hi ((Hf.jump ⟨dc, k0, k1, hb⟩ x).c)).toNat), .int .u64 ((Wd.lo ((Hf.jump ⟨dc, k0, k1, hb⟩ x).c)).toNat), .int .u32 (((Hf.jump ⟨dc, k0, k1, hb⟩ x).k0).toNat), .int .u32 (((Hf.jump ⟨dc, k0, k1, hb⟩ x).k1).toNat), .bool ((Hf.jump ⟨dc, k0, k1, hb⟩ x).b)]) if_47 F H rfl rfl (own12_c ((Hf.jump ⟨dc, k0, k1, hb⟩ x).c) ((Hf.jump ⟨dc, k0, k1, hb⟩ x).k0) ((Hf.jump ⟨dc, k0, k1, hb⟩ x).k1) ((Hf.jump ⟨dc, k0, k1, hb⟩ x).b) _)) ?_
          rintro xv w' ⟨hx, H⟩
          exact ⟨(fun cv hc => hx.trans (Option.some.inj (Option.some.inj hc))), H⟩
        · show Sx.StepAt _ _ _ _ _ _ _ 20
          intro L A w up hun hd F H
          have F := Sx.Fr.to F (kv' := [(3, .pointer (some ⟨g1, 0, none⟩)), (82, .bool true)]) ⟨rfl, rfl, trivial⟩
          refine Sx.step_ong rfl (Sx.guard_known (d := 82) (b := true) F rfl rfl) rfl (Sx.d_load (i := 3) (xs := [.int .u64 ((Wd.hi dc).toNat), .int .u64 ((Wd.lo dc).toNat), .int .u32 k0.toNat, .int .u32 k1.toNat, .bool hb]) rw_82 F H rfl rfl rfl rfl rfl) ?_
          rintro xv w' ⟨hx, rfl⟩
          exact ⟨(fun cv hc => hx.trans (Option.some.inj (Option.some.inj hc))), H⟩
        · show Sx.StepAt _ _ _ _ _ _ _ 21
          intro L A w up hun hd F H
          have F := Sx.Fr.to F (kv' := [(87, .agg #[.int .u64 ((Wd.hi dc).toNat), .int .u64 ((Wd.lo dc).toNat), .int .u32 k0.toNat, .int .u32 k1.toNat, .bool hb]), (82, .bool true)]) ⟨rfl, rfl, trivial⟩
          refine Sx.step_ong rfl (Sx.guard_known (d := 82) (b := true) F rfl rfl) rfl (Sx.d_call (vs := [.agg #[.int .u64 ((Wd.hi dc).toNat), .int .u64 ((Wd.lo dc).toNat), .int .u32 k0.toNat, .int .u32 k1.toNat, .bool hb]]) (v := .agg #[.int .u64 ((Wd.hi dc).toNat), .int .u64 ((Wd.lo dc).toNat), .int .u32 k0.toNat, .int .u32 k1.toNat, .bool hb]) if_47 F H rfl rfl (own12_c dc k0 k1 hb _)) ?_
          rintro xv w' ⟨hx, H⟩
          exact ⟨(fun cv hc => hx.trans (Option.some.inj (Option.some.inj hc))), H⟩
        · show Sx.StepAt _ _ _ _ _ _ _ 22
          intro L A w up hun hd F H
          have F := Sx.Fr.to F (kv' := [(5, .pointer (some ⟨g2, 0, none⟩)), (82, .bool true)]) ⟨rfl, rfl, trivial⟩
          refine Sx.step_ong rfl (Sx.guard_known (d := 82) (b := true) F rfl rfl) rfl (Sx.d_load (i := 2) (xs := [.int .u64 ((Wd.hi x).toNat), .int .u64 ((Wd.lo x).toNat)]) rw_24 F H rfl rfl rfl rfl rfl) ?_
          rintro xv w' ⟨hx, rfl⟩
          exact ⟨(fun cv hc => hx.trans (Option.some.inj (Option.some.inj hc))), H⟩
        · show Sx.StepAt _ _ _ _ _ _ _ 23
          intro L A w up hun hd F H
          have F := Sx.Fr.to F (kv' := [(88, .agg #[.int .u64 ((Wd.hi dc).toNat), .int .u64 ((Wd.lo dc).toNat), .int .u32 k0.toNat, .int .u32 k1.toNat, .bool hb]), (89, .agg #[.int .u64 ((Wd.hi x).toNat), .int .u64 ((Wd.lo x).toNat)]), (82, .bool true)]) ⟨rfl, rfl, rfl, trivial⟩
          refine Sx.step_ong rfl (Sx.guard_known (d := 82) (b := true) F rfl rfl) rfl (Sx.d_call (vs := [.agg #[.int .u64 ((Wd.hi dc).toNat), .int .u64 ((Wd.lo dc).toNat), .int .u32 k0.toNat, .int .u32 k1.toNat, .bool hb], .agg #[.int .u64 ((Wd.hi x).toNat), .int .u64 ((Wd.lo x).toNat)]]) (v := .agg #[.int .u64 ((Wd.hi ((Hf.jump ⟨dc, k0, k1, hb⟩ x).c)).toNat), .int .u64 ((Wd.lo ((Hf.jump ⟨dc, k0, k1, hb⟩ x).c)).toNat), .int .u32 (((Hf.jump ⟨dc, k0, k1, hb⟩ x).k0).toNat), .int .u32 (((Hf.jump ⟨dc, k0, k1, hb⟩ x).k1).toNat), .bool ((Hf.jump ⟨dc, k0, k1, hb⟩ x).b)]) if_53 F H rfl rfl (rfar12_c dc k0 k1 hb x _)) ?_
          rintro xv w' ⟨hx, H⟩
          exact ⟨(fun cv hc => hx.trans (Option.some.inj (Option.some.inj hc))), H⟩
        · show Sx.StepAt _ _ _ _ _ _ _ 24
          intro L A w up hun hd F H
          have F := Sx.Fr.to F (kv' := [(86, .agg #[.int .u64 ((Wd.hi ((Hf.jump ⟨dc, k0, k1, hb⟩ x).c)).toNat), .int .u64 ((Wd.lo ((Hf.jump ⟨dc, k0, k1, hb⟩ x).c)).toNat), .int .u32 (((Hf.jump ⟨dc, k0, k1, hb⟩ x).k0).toNat), .int .u32 (((Hf.jump ⟨dc, k0, k1, hb⟩ x).k1).toNat), .bool ((Hf.jump ⟨dc, k0, k1, hb⟩ x).b)]), (90, .agg #[.int .u64 ((Wd.hi ((Hf.jump ⟨dc, k0, k1, hb⟩ x).c)).toNat), .int .u64 ((Wd.lo ((Hf.jump ⟨dc, k0, k1, hb⟩ x).c)).toNat), .int .u32 (((Hf.jump ⟨dc, k0, k1, hb⟩ x).k0).toNat), .int .u32 (((Hf.jump ⟨dc, k0, k1, hb⟩ x).k1).toNat), .bool ((Hf.jump ⟨dc, k0, k1, hb⟩ x).b)]), (82, .bool true)]) ⟨rfl, rfl, rfl, trivial⟩
          refine Sx.step_ong rfl (Sx.guard_known (d := 82) (b := true) F rfl rfl) rfl (Sx.d_bin (v := .bool true) F rfl rfl rfl (Sx.i_eqG (decide_eq_true ⟨rfl, rfl, rfl, rfl⟩))) ?_
          rintro xv w' ⟨hx, rfl⟩
          exact ⟨(fun cv hc => hx.trans (Option.some.inj (Option.some.inj hc))), H⟩
        · show Sx.StepAt _ _ _ _ _ _ _ 25
          intro L A w up hun hd F H
          have F := Sx.Fr.to F (kv' := [(82, .bool true), (91, .bool true)]) ⟨rfl, rfl, trivial⟩
          refine Sx.step_on rfl (Sx.d_pickT (v := .bool true) F rfl rfl rfl) ?_
          rintro xv w' ⟨hx, rfl⟩
          exact ⟨(fun cv hc => hx.trans (Option.some.inj (Option.some.inj hc))), H⟩
        · show Sx.StepAt _ _ _ _ _ _ _ 26
          intro L A w up hun hd F H
          have F := Sx.Fr.to F (kv' := [(92, .bool true)]) ⟨rfl, trivial⟩
          refine Sx.step_on rfl (Sx.d_move F (Or.inl rfl) rfl) ?_
          rintro xv w' ⟨hx, rfl⟩
          exact ⟨(fun cv hc => hx.trans (Option.some.inj (Option.some.inj hc))), H⟩
        · show Sx.StepAt _ _ _ _ _ _ _ 27
          intro L A w up hun hd F H
          have F := Sx.Fr.to F (kv' := [(3, .pointer (some ⟨g1, 0, none⟩)), (93, .bool true)]) ⟨rfl, rfl, trivial⟩
          refine Sx.step_ong rfl (Sx.guard_known (d := 93) (b := true) F rfl rfl) rfl (Sx.d_faddr (v := .pointer (some ⟨g1, 0, none⟩)) F rfl rfl (fa_82_0 _ 0 _)) ?_
          rintro xv w' ⟨hx, rfl⟩
          exact ⟨(fun cv hc => hx.trans (Option.some.inj (Option.some.inj hc))), H⟩
        · show Sx.StepAt _ _ _ _ _ _ _ 28
          intro L A w up hun hd F H
          have F := Sx.Fr.to F (kv' := [(94, .pointer (some ⟨g1, 0, none⟩)), (93, .bool true)]) ⟨rfl, rfl, trivial⟩
          refine Sx.step_ong rfl (Sx.guard_known (d := 93) (b := true) F rfl rfl) rfl (Sx.d_load (i := 3) (xs := [.int .u64 ((Wd.hi dc).toNat), .int .u64 ((Wd.lo dc).toNat)]) rw_24 F H rfl rfl rfl rfl rfl) ?_
          rintro xv w' ⟨hx, rfl⟩
          exact ⟨(fun cv hc => hx.trans (Option.some.inj (Option.some.inj hc))), H⟩
        · show Sx.StepAt _ _ _ _ _ _ _ 29
          intro L A w up hun hd F H
          have F := Sx.Fr.to F (kv' := [(95, .agg #[.int .u64 ((Wd.hi dc).toNat), .int .u64 ((Wd.lo dc).toNat)]), (93, .bool true)]) ⟨rfl, rfl, trivial⟩
          refine Sx.step_ong rfl (Sx.guard_known (d := 93) (b := true) F rfl rfl) rfl (Sx.d_call (vs := [.agg #[.int .u64 ((Wd.hi dc).toNat), .int .u64 ((Wd.lo dc).toNat)]]) (v := .agg #[.int .u32 ((Hf.low (Wd.lo dc)).toNat), .int .u32 ((Hf.top (Wd.lo dc)).toNat), .int .u32 ((Hf.low (Wd.hi dc)).toNat), .int .u32 ((Hf.top (Wd.hi dc)).toNat)]) if_54 F H rfl rfl (hblock_c dc _)) ?_
          rintro xv w' ⟨hx, H⟩
          exact ⟨(fun cv hc => hx.trans (Option.some.inj (Option.some.inj hc))), H⟩
        · show Sx.StepAt _ _ _ _ _ _ _ 30
          intro L A w up hun hd F H
          have F := Sx.Fr.to F (kv' := [(3, .pointer (some ⟨g1, 0, none⟩)), (93, .bool true)]) ⟨rfl, rfl, trivial⟩
          refine Sx.step_ong rfl (Sx.guard_known (d := 93) (b := true) F rfl rfl) rfl (Sx.d_faddr (v := .pointer (some ⟨g1, 0, none⟩)) F rfl rfl (fa_82_0 _ 0 _)) ?_
          rintro xv w' ⟨hx, rfl⟩
          exact ⟨(fun cv hc => hx.trans (Option.some.inj (Option.some.inj hc))), H⟩
        · show Sx.StepAt _ _ _ _ _ _ _ 31
          intro L A w up hun hd F H
          have F := Sx.Fr.to F (kv' := [(97, .pointer (some ⟨g1, 0, none⟩)), (93, .bool true)]) ⟨rfl, rfl, trivial⟩
          refine Sx.step_ong rfl (Sx.guard_known (d := 93) (b := true) F rfl rfl) rfl (Sx.d_load (i := 3) (xs := [.int .u64 ((Wd.hi dc).toNat), .int .u64 ((Wd.lo dc).toNat)]) rw_24 F H rfl rfl rfl rfl rfl) ?_
          rintro xv w' ⟨hx, rfl⟩
          exact ⟨(fun cv hc => hx.trans (Option.some.inj (Option.some.inj hc))), H⟩
        · show Sx.StepAt _ _ _ _ _ _ _ 32
          intro L A w up hun hd F H
          have F := Sx.Fr.to F (kv' := [(98, .agg #[.int .u64 ((Wd.hi dc).toNat), .int .u64 ((Wd.lo dc).toNat)]), (93, .bool true)]) ⟨rfl, rfl, trivial⟩
          refine Sx.step_ong rfl (Sx.guard_known (d := 93) (b := true) F rfl rfl) rfl (Sx.d_call (vs := [.agg #[.int .u64 ((Wd.hi dc).toNat), .int .u64 ((Wd.lo dc).toNat)]]) (v := .agg #[.int .u32 ((Hf.low (Wd.lo dc)).toNat), .int .u32 ((Hf.top (Wd.lo dc)).toNat), .int .u32 ((Hf.low (Wd.hi dc)).toNat), .int .u32 ((Hf.top (Wd.hi dc)).toNat)]) if_55 F H rfl rfl (rblock12_c dc _)) ?_
          rintro xv w' ⟨hx, H⟩
          exact ⟨(fun cv hc => hx.trans (Option.some.inj (Option.some.inj hc))), H⟩
        · show Sx.StepAt _ _ _ _ _ _ _ 33
          intro L A w up hun hd F H
          have F := Sx.Fr.to F (kv' := [(96, .agg #[.int .u32 ((Hf.low (Wd.lo dc)).toNat), .int .u32 ((Hf.top (Wd.lo dc)).toNat), .int .u32 ((Hf.low (Wd.hi dc)).toNat), .int .u32 ((Hf.top (Wd.hi dc)).toNat)]), (99, .agg #[.int .u32 ((Hf.low (Wd.lo dc)).toNat), .int .u32 ((Hf.top (Wd.lo dc)).toNat), .int .u32 ((Hf.low (Wd.hi dc)).toNat), .int .u32 ((Hf.top (Wd.hi dc)).toNat)]), (93, .bool true)]) ⟨rfl, rfl, rfl, trivial⟩
          refine Sx.step_ong rfl (Sx.guard_known (d := 93) (b := true) F rfl rfl) rfl (Sx.d_bin (v := .bool true) F rfl rfl rfl Sx.i_eqB) ?_
          rintro xv w' ⟨hx, rfl⟩
          exact ⟨(fun cv hc => hx.trans (Option.some.inj (Option.some.inj hc))), H⟩
        · show Sx.StepAt _ _ _ _ _ _ _ 34
          intro L A w up hun hd F H
          have F := Sx.Fr.to F (kv' := [(93, .bool true), (100, .bool true)]) ⟨rfl, rfl, trivial⟩
          refine Sx.step_on rfl (Sx.d_pickT (v := .bool true) F rfl rfl rfl) ?_
          rintro xv w' ⟨hx, rfl⟩
          exact ⟨(fun cv hc => hx.trans (Option.some.inj (Option.some.inj hc))), H⟩
        · show Sx.StepAt _ _ _ _ _ _ _ 35
          intro L A w up hun hd F H
          have F := Sx.Fr.to F (kv' := [(101, .bool true)]) ⟨rfl, trivial⟩
          refine Sx.step_on rfl (Sx.d_move F (Or.inr rfl) rfl) ?_
          rintro xv w' ⟨hx, rfl⟩
          exact ⟨(fun cv hc => hx.trans (Option.some.inj (Option.some.inj hc))), H⟩
      · intro L A w hL F H
        have F := Sx.Fr.to F (kv' := [(1, .int .i64 j), (3, .pointer (some ⟨g1, 0, none⟩)), (5, .pointer (some ⟨g2, 0, none⟩)), (7, v1), (8, .pointer (some ⟨g3, 0, none⟩)), (9, .int .i64 0), (10, v), (11, .pointer (some ⟨g4, 0, none⟩)), (42, .int .i64 j), (43, .int .i64 j), (44, .bool false), (66, .bool false), (6, .bool true)]) ⟨rfl, rfl, rfl, rfl, rfl, rfl, rfl, rfl, rfl, rfl, rfl, rfl, rfl, trivial⟩
        refine hK17 _ _ ?_
        refine wp_ret ?_
        try dsimp only [Exit.then, Exit.inBlock, Exit.jump]
        refine Sx.ret1 F Try.results12 (Sx.res_tmp (v := .bool true) F rfl) ⟨?_, H.below⟩
        rfl
theorem halfTells_walk (c : BitVec 128) (k0 k1 : BitVec 32) (b : Bool) (many : Int) (n : BitVec 128) (w : World) : Calls Try.prog 12 #[.agg #[.int .u64 (Wd.hi c).toNat, .int .u64 (Wd.lo c).toNat, .int .u32 k0.toNat, .int .u32 k1.toNat, .bool b], .int .i64 many, .agg #[.int .u64 (Wd.hi n).toNat, .int .u64 (Wd.lo n).toNat]] w fun e w' => e = .returned (.bool true) ∧ Below w.heap.size w w' := by
  by_cases h0 : many < 0
  · exact halfTells_lo c k0 k1 b n many h0 w
  · by_cases h1 : 256 < many
    · exact halfTells_hi c k0 k1 b n many h1 w
    · obtain ⟨m, rfl⟩ := Int.eq_ofNat_of_zero_le (show 0 ≤ many from by omega)
      exact halfTells_ok c k0 k1 b n m (by omega) w
end Go.Proofs.Ytpbdffmgendboaa
