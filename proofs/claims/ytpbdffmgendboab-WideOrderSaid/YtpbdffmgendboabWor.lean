/- WideOrder walked. -/
import Derived.Test.YtpbdffmgendboabAw
import Derived.Test.YtpbdffmgendboabShPlain
namespace Go.Proofs.Ytpbdffmgendboab
open Go Go.RowKit
set_option maxHeartbeats 4000000 in
set_option maxRecDepth 100000 in
theorem wideOrder_walk (da db : BitVec 128) (w0 : World) : Calls Try.prog 5 #[.agg #[.int .u64 ((Wd.hi da).toNat), .int .u64 ((Wd.lo da).toNat)], .agg #[.int .u64 ((Wd.hi db).toNat), .int .u64 ((Wd.lo db).toNat)]] w0 fun e w' => e = .returned (.bool true) ∧ Below w0.heap.size w0 w' := by
  refine Sx.enter (args := [.agg #[.int .u64 ((Wd.hi da).toNat), .int .u64 ((Wd.lo da).toNat)], .agg #[.int .u64 ((Wd.hi db).toNat), .int .u64 ((Wd.lo db).toNat)]]) Try.func5 rfl Try.ntmps5 (Nat.le_of_ble_eq_true rfl) (fun A F => ?_)
  have H := Sx.Own.start w0
  refine Sx.seq (fun K1 hK1 => ?_)
  refine Sx.plain ?_
  refine Sx.sb F (Sx.d_box F H rfl rfl [.int .u64 ((Wd.hi da).toNat), .int .u64 ((Wd.lo da).toNat)] rfl) (Sx.wanted_none rfl _) rfl (by decide) (fun g1 A w F H => ?_)
  refine Sx.sb F (Sx.d_box F H rfl rfl [.int .u64 ((Wd.hi db).toNat), .int .u64 ((Wd.lo db).toNat)] rfl) (Sx.wanted_none rfl _) rfl (by decide) (fun g2 A w F H => ?_)
  refine Sx.sv F (Sx.d_move F (Or.inr rfl) rfl) (Sx.wanted_none rfl _) rfl (by decide) (fun A F => ?_)
  refine Sx.nil ?_
  refine hK1 _ _ ?_
  refine Sx.seq (fun K2 hK2 => ?_)
  refine Sx.seq (fun K3 hK3 => ?_)
  refine Sx.plain ?_
  refine Sx.sw F (Sx.d_call (vs := []) (v := .bool true) if_10 F H rfl rfl (awake01_c _)) (Sx.wanted_none rfl _) rfl (by decide) (fun A w F H => ?_)
  refine Sx.sv F (Sx.d_un (v := .bool false) F rfl rfl rfl) (Sx.wanted_none rfl _) rfl (by decide) (fun A F => ?_)
  refine Sx.nil ?_
  refine hK3 _ _ ?_
  refine Sx.condF F rfl ?_
  refine wp_skip ?_
  refine hK2 _ _ ?_
  refine Sx.seq (fun K4 hK4 => ?_)
  refine Sx.plain ?_
  refine Sx.sv F (Sx.d_load (i := 1) (xs := [.int .u64 ((Wd.hi da).toNat), .int .u64 ((Wd.lo da).toNat)]) rw_24 F H rfl rfl rfl rfl rfl) (Sx.wanted_none rfl _) rfl (by decide) (fun A F => ?_)
  refine Sx.sv F (Sx.d_load (i := 0) (xs := [.int .u64 ((Wd.hi db).toNat), .int .u64 ((Wd.lo db).toNat)]) rw_24 F H rfl rfl rfl rfl rfl) (Sx.wanted_none rfl _) rfl (by decide) (fun A F => ?_)
  refine Sx.sw F (Sx.d_call (vs := [.agg #[.int .u64 ((Wd.hi da).toNat), .int .u64 ((Wd.lo da).toNat)], .agg #[.int .u64 ((Wd.hi db).toNat), .int .u64 ((Wd.lo db).toNat)]]) (v := .tuple #[.agg #[.int .u64 ((Wd.hi (da + db)).toNat), .int .u64 ((Wd.lo (da + db)).toNat)], .bool (Wd.over da db)]) if_11 F H rfl rfl (wadd_c da db _)) (Sx.wanted_none rfl _) rfl (by decide) (fun A w F H => ?_)
  refine Sx.sv F (Sx.d_move F (Or.inl rfl) rfl) (Sx.wanted_none rfl _) rfl (by decide) (fun A F => ?_)
  refine Sx.sv F (Sx.d_extract (v := .agg #[.int .u64 ((Wd.hi (da + db)).toNat), .int .u64 ((Wd.lo (da + db)).toNat)]) F rfl rfl rfl) (Sx.wanted_none rfl _) rfl (by decide) (fun A F => ?_)
  refine Sx.sv F (Sx.d_extract (v := .bool (Wd.over da db)) F rfl rfl rfl) (Sx.wanted_none rfl _) rfl (by decide) (fun A F => ?_)
  refine Sx.sb F (Sx.d_alloc H rfl [.int .u64 ((Wd.hi 0#128).toNat), .int .u64 ((Wd.lo 0#128).toNat)] zero_24) (Sx.wanted_none rfl _) rfl (by decide) (fun g3 A w F H => ?_)
  refine Sx.ss F (Sx.d_store (i := 0) (xs := [.int .u64 ((Wd.hi (da + db)).toNat), .int .u64 ((Wd.lo (da + db)).toNat)]) (us := [.int .u64 ((Wd.hi (da + db)).toNat), .int .u64 ((Wd.lo (da + db)).toNat)]) sz_24 F H rfl rfl rfl rfl rfl rfl rfl (Nat.le_of_ble_eq_true rfl) rfl) (Sx.wanted_none rfl _) rfl (fun A w F (H : Sx.Own w0 _ [(true, g3, [.int .u64 ((Wd.hi (da + db)).toNat), .int .u64 ((Wd.lo (da + db)).toNat)]), (true, g2, [.int .u64 ((Wd.hi db).toNat), .int .u64 ((Wd.lo db).toNat)]), (true, g1, [.int .u64 ((Wd.hi da).toNat), .int .u64 ((Wd.lo da).toNat)])] []) => ?_)
  refine Sx.sv F (Sx.d_move F (Or.inr rfl) rfl) (Sx.wanted_none rfl _) rfl (by decide) (fun A F => ?_)
  refine Sx.nil ?_
  refine hK4 _ _ ?_
  refine Sx.seq (fun K5 hK5 => ?_)
  refine Sx.plain ?_
  refine Sx.sv F (Sx.d_load (i := 2) (xs := [.int .u64 ((Wd.hi da).toNat), .int .u64 ((Wd.lo da).toNat)]) rw_24 F H rfl rfl rfl rfl rfl) (Sx.wanted_none rfl _) rfl (by decide) (fun A F => ?_)
  refine Sx.sv F (Sx.d_load (i := 1) (xs := [.int .u64 ((Wd.hi db).toNat), .int .u64 ((Wd.lo db).toNat)]) rw_24 F H rfl rfl rfl rfl rfl) (Sx.wanted_none rfl _) rfl (by decide) (fun A F => ?_)
  refine Sx.sw F (Sx.d_call (vs := [.agg #[.int .u64 ((Wd.hi da).toNat), .int .u64 ((Wd.lo da).toNat)], .agg #[.int .u64 ((Wd.hi db).toNat), .int .u64 ((Wd.lo db).toNat)]]) (v := .tuple #[.agg #[.int .u64 ((Wd.hi (da - db)).toNat), .int .u64 ((Wd.lo (da - db)).toNat)], .bool (Wd.less da db)]) if_12 F H rfl rfl (wsub_c da db _)) (Sx.wanted_none rfl _) rfl (by decide) (fun A w F H => ?_)
  refine Sx.sv F (Sx.d_move F (Or.inl rfl) rfl) (Sx.wanted_none rfl _) rfl (by decide) (fun A F => ?_)
  refine Sx.sv F (Sx.d_extract (v := .agg #[.int .u64 ((Wd.hi (da - db)).toNat), .int .u64 ((Wd.lo (da - db)).toNat)]) F rfl rfl rfl) (Sx.wanted_none rfl _) rfl (by decide) (fun A F => ?_)
  refine Sx.sv F (Sx.d_extract (v := .bool (Wd.less da db)) F rfl rfl rfl) (Sx.wanted_none rfl _) rfl (by decide) (fun A F => ?_)
  refine Sx.sb F (Sx.d_alloc H rfl [.int .u64 ((Wd.hi 0#128).toNat), .int .u64 ((Wd.lo 0#128).toNat)] zero_24) (Sx.wanted_none rfl _) rfl (by decide) (fun g4 A w F H => ?_)
  refine Sx.ss F (Sx.d_store (i := 0) (xs := [.int .u64 ((Wd.hi (da - db)).toNat), .int .u64 ((Wd.lo (da - db)).toNat)]) (us := [.int .u64 ((Wd.hi (da - db)).toNat), .int .u64 ((Wd.lo (da - db)).toNat)]) sz_24 F H rfl rfl rfl rfl rfl rfl rfl (Nat.le_of_ble_eq_true rfl) rfl) (Sx.wanted_none rfl _) rfl (fun A w F (H : Sx.Own w0 _ [(true, g4, [.int .u64 ((Wd.hi (da - db)).toNat), .int .u64 ((Wd.lo (da - db)).toNat)]), (true, g3, [.int .u64 ((Wd.hi (da + db)).toNat), .int .u64 ((Wd.lo (da + db)).toNat)]), (true, g2, [.int .u64 ((Wd.hi db).toNat), .int .u64 ((Wd.lo db).toNat)]), (true, g1, [.int .u64 ((Wd.hi da).toNat), .int .u64 ((Wd.lo da).toNat)])] []) => ?_)
  refine Sx.sv F (Sx.d_move F (Or.inr rfl) rfl) (Sx.wanted_none rfl _) rfl (by decide) (fun A F => ?_)
  refine Sx.nil ?_
  refine hK5 _ _ ?_
  refine Sx.seq (fun K6 hK6 => ?_)
  refine Sx.plain ?_
  refine Sx.sv F (Sx.d_load (i := 3) (xs := [.int .u64 ((Wd.hi da).toNat), .int .u64 ((Wd.lo da).toNat)]) rw_24 F H rfl rfl rfl rfl rfl) (Sx.wanted_none rfl _) rfl (by decide) (fun A F => ?_)
  refine Sx.sr (mk := fun v => v) F (Sx.d_callR (vs := [.agg #[.int .u64 ((Wd.hi da).toNat), .int .u64 ((Wd.lo da).toNat)]]) (mk := fun v => v) if_21 F H rfl rfl (wput_c da _)) (Sx.wanted_none rfl _) rfl (by decide) (fun v1 A w F (H : Sx.Own w0 _ [(true, g4, [.int .u64 ((Wd.hi (da - db)).toNat), .int .u64 ((Wd.lo (da - db)).toNat)]), (true, g3, [.int .u64 ((Wd.hi (da + db)).toNat), .int .u64 ((Wd.lo (da + db)).toNat)]), (true, g2, [.int .u64 ((Wd.hi db).toNat), .int .u64 ((Wd.lo db).toNat)]), (true, g1, [.int .u64 ((Wd.hi da).toNat), .int .u64 ((Wd.lo da).toNat)])] [⟨true, v1, 5, 1, 16, (By.bys (By.put da) 16)⟩]) => ?_)
  refine Sx.sw F (Sx.d_call (vs := [v1]) (v := .tuple #[.agg #[.int .u64 ((Wd.hi (By.val (By.put da) 16)).toNat), .int .u64 ((Wd.lo (By.val (By.put da) 16)).toNat)], .int .i64 0]) if_20 F H rfl rfl (wtake_ok (By.put da) (By.put_lt da) _ _ (By.Rd.row (H.row 0 _ rfl rfl) (by decide)))) (Sx.wanted_none rfl _) rfl (by decide) (fun A w F H => ?_)
  refine Sx.sv F (Sx.d_move F (Or.inl rfl) rfl) (Sx.wanted_none rfl _) rfl (by decide) (fun A F => ?_)
  refine Sx.sv F (Sx.d_extract (v := .agg #[.int .u64 ((Wd.hi (By.val (By.put da) 16)).toNat), .int .u64 ((Wd.lo (By.val (By.put da) 16)).toNat)]) F rfl rfl rfl) (Sx.wanted_none rfl _) rfl (by decide) (fun A F => ?_)
  refine Sx.sv F (Sx.d_extract (v := .int .i64 0) F rfl rfl rfl) (Sx.wanted_none rfl _) rfl (by decide) (fun A F => ?_)
  refine Sx.sb F (Sx.d_alloc H rfl [.int .u64 ((Wd.hi 0#128).toNat), .int .u64 ((Wd.lo 0#128).toNat)] zero_24) (Sx.wanted_none rfl _) rfl (by decide) (fun g5 A w F H => ?_)
  refine Sx.ss F (Sx.d_store (i := 0) (xs := [.int .u64 ((Wd.hi (By.val (By.put da) 16)).toNat), .int .u64 ((Wd.lo (By.val (By.put da) 16)).toNat)]) (us := [.int .u64 ((Wd.hi (By.val (By.put da) 16)).toNat), .int .u64 ((Wd.lo (By.val (By.put da) 16)).toNat)]) sz_24 F H rfl rfl rfl rfl rfl rfl rfl (Nat.le_of_ble_eq_true rfl) rfl) (Sx.wanted_none rfl _) rfl (fun A w F (H : Sx.Own w0 _ [(true, g5, [.int .u64 ((Wd.hi (By.val (By.put da) 16)).toNat), .int .u64 ((Wd.lo (By.val (By.put da) 16)).toNat)]), (true, g4, [.int .u64 ((Wd.hi (da - db)).toNat), .int .u64 ((Wd.lo (da - db)).toNat)]), (true, g3, [.int .u64 ((Wd.hi (da + db)).toNat), .int .u64 ((Wd.lo (da + db)).toNat)]), (true, g2, [.int .u64 ((Wd.hi db).toNat), .int .u64 ((Wd.lo db).toNat)]), (true, g1, [.int .u64 ((Wd.hi da).toNat), .int .u64 ((Wd.lo da).toNat)])] [⟨true, v1, 5, 1, 16, (By.bys (By.put da) 16)⟩]) => ?_)
  refine Sx.sv F (Sx.d_move F (Or.inr rfl) rfl) (Sx.wanted_none rfl _) rfl (by decide) (fun A F => ?_)
  refine Sx.nil ?_
  refine hK6 _ _ ?_
  refine Sx.seq (fun K7 hK7 => ?_)
  refine Sx.plain ?_
  refine Sx.sv F (Sx.d_load (i := 4) (xs := [.int .u64 ((Wd.hi da).toNat), .int .u64 ((Wd.lo da).toNat)]) rw_24 F H rfl rfl rfl rfl rfl) (Sx.wanted_none rfl _) rfl (by decide) (fun A F => ?_)
  refine Sx.sv F (Sx.d_load (i := 3) (xs := [.int .u64 ((Wd.hi db).toNat), .int .u64 ((Wd.lo db).toNat)]) rw_24 F H rfl rfl rfl rfl rfl) (Sx.wanted_none rfl _) rfl (by decide) (fun A F => ?_)
  refine Sx.sw F (Sx.d_call (vs := [.agg #[.int .u64 ((Wd.hi da).toNat), .int .u64 ((Wd.lo da).toNat)], .agg #[.int .u64 ((Wd.hi db).toNat), .int .u64 ((Wd.lo db).toNat)]]) (v := .int .i64 (Wd.cmp da db)) if_17 F H rfl rfl (wcmp_c da db _)) (Sx.wanted_none rfl _) rfl (by decide) (fun A w F H => ?_)
  refine Sx.sv F (Sx.d_move F (Or.inr rfl) rfl) (Sx.wanted_none rfl _) rfl (by decide) (fun A F => ?_)
  refine Sx.nil ?_
  refine hK7 _ _ ?_
  refine Sx.seq (fun K8 hK8 => ?_)
  have F := Sx.Fr.to F (kv' := [(0, .agg #[.int .u64 ((Wd.hi da).toNat), .int .u64 ((Wd.lo da).toNat)]), (1, .agg #[.int .u64 ((Wd.hi db).toNat), .int .u64 ((Wd.lo db).toNat)]), (2, .pointer (some ⟨g1, 0, none⟩)), (3, .pointer (some ⟨g2, 0, none⟩)), (4, .bool false), (15, .bool true), (16, .bool false), (18, .agg #[.int .u64 ((Wd.hi da).toNat), .int .u64 ((Wd.lo da).toNat)]), (19, .agg #[.int .u64 ((Wd.hi db).toNat), .int .u64 ((Wd.lo db).toNat)]), (20, .tuple #[.agg #[.int .u64 ((Wd.hi (da + db)).toNat), .int .u64 ((Wd.lo (da + db)).toNat)], .bool (Wd.over da db)]), (17, .tuple #[.agg #[.int .u64 ((Wd.hi (da + db)).toNat), .int .u64 ((Wd.lo (da + db)).toNat)], .bool (Wd.over da db)]), (21, .agg #[.int .u64 ((Wd.hi (da + db)).toNat), .int .u64 ((Wd.lo (da + db)).toNat)]), (22, .bool (Wd.over da db)), (5, .pointer (some ⟨g3, 0, none⟩)), (6, .bool (Wd.over da db)), (24, .agg #[.int .u64 ((Wd.hi da).toNat), .int .u64 ((Wd.lo da).toNat)]), (25, .agg #[.int .u64 ((Wd.hi db).toNat), .int .u64 ((Wd.lo db).toNat)]), (26, .tuple #[.agg #[.int .u64 ((Wd.hi (da - db)).toNat), .int .u64 ((Wd.lo (da - db)).toNat)], .bool (Wd.less da db)]), (23, .tuple #[.agg #[.int .u64 ((Wd.hi (da - db)).toNat), .int .u64 ((Wd.lo (da - db)).toNat)], .bool (Wd.less da db)]), (27, .agg #[.int .u64 ((Wd.hi (da - db)).toNat), .int .u64 ((Wd.lo (da - db)).toNat)]), (28, .bool (Wd.less da db)), (7, .pointer (some ⟨g4, 0, none⟩)), (8, .bool (Wd.less da db)), (30, .agg #[.int .u64 ((Wd.hi da).toNat), .int .u64 ((Wd.lo da).toNat)]), (31, v1), (32, .tuple #[.agg #[.int .u64 ((Wd.hi (By.val (By.put da) 16)).toNat), .int .u64 ((Wd.lo (By.val (By.put da) 16)).toNat)], .int .i64 0]), (29, .tuple #[.agg #[.int .u64 ((Wd.hi (By.val (By.put da) 16)).toNat), .int .u64 ((Wd.lo (By.val (By.put da) 16)).toNat)], .int .i64 0]), (33, .agg #[.int .u64 ((Wd.hi (By.val (By.put da) 16)).toNat), .int .u64 ((Wd.lo (By.val (By.put da) 16)).toNat)]), (34, .int .i64 0), (9, .pointer (some ⟨g5, 0, none⟩)), (10, .int .i64 0), (35, .agg #[.int .u64 ((Wd.hi da).toNat), .int .u64 ((Wd.lo da).toNat)]), (36, .agg #[.int .u64 ((Wd.hi db).toNat), .int .u64 ((Wd.lo db).toNat)]), (37, .int .i64 (Wd.cmp da db)), (11, .int .i64 (Wd.cmp da db))]) ⟨rfl, rfl, rfl, rfl, rfl, rfl, rfl, rfl, rfl, rfl, rfl, rfl, rfl, rfl, rfl, rfl, rfl, rfl, rfl, rfl, rfl, rfl, rfl, rfl, rfl, rfl, rfl, rfl, rfl, rfl, rfl, rfl, rfl, rfl, rfl, trivial⟩
  refine Sx.drawn F (by kernel_rfl) (by kernel_rfl) (by kernel_rfl) [some (.agg #[.int .u64 ((Wd.hi da).toNat), .int .u64 ((Wd.lo da).toNat)]), some (.string (Dg.str da.toNat)), some (.agg #[.int .u64 ((Wd.hi db).toNat), .int .u64 ((Wd.lo db).toNat)]), some (.string (Dg.str db.toNat)), some (.string (Dg.str da.toNat)), some (.string (Dg.str db.toNat))] (fun L A w => Sx.Own w0 w [(true, g5, [.int .u64 ((Wd.hi (By.val (By.put da) 16)).toNat), .int .u64 ((Wd.lo (By.val (By.put da) 16)).toNat)]), (true, g4, [.int .u64 ((Wd.hi (da - db)).toNat), .int .u64 ((Wd.lo (da - db)).toNat)]), (true, g3, [.int .u64 ((Wd.hi (da + db)).toNat), .int .u64 ((Wd.lo (da + db)).toNat)]), (true, g2, [.int .u64 ((Wd.hi db).toNat), .int .u64 ((Wd.lo db).toNat)]), (true, g1, [.int .u64 ((Wd.hi da).toNat), .int .u64 ((Wd.lo da).toNat)])] [⟨true, v1, 5, 1, 16, (By.bys (By.put da) 16)⟩]) H.drew ?_ ?_
  · refine ⟨?_, ?_, ?_, ?_, ?_, ?_, trivial⟩
    · show Sx.StepAt _ _ _ _ _ _ _ 0
      intro L A w up hun hd F H
      have F := Sx.Fr.to F (kv' := [(2, .pointer (some ⟨g1, 0, none⟩))]) ⟨rfl, trivial⟩
      refine Sx.step_on rfl (Sx.d_load (i := 4) (xs := [.int .u64 ((Wd.hi da).toNat), .int .u64 ((Wd.lo da).toNat)]) rw_24 F H rfl rfl rfl rfl rfl) ?_
      rintro xv w' ⟨hx, rfl⟩
      exact ⟨(fun cv hc => hx.trans (Option.some.inj (Option.some.inj hc))), H⟩
    · show Sx.StepAt _ _ _ _ _ _ _ 1
      intro L A w up hun hd F H
      have F := Sx.Fr.to F (kv' := [(38, .agg #[.int .u64 ((Wd.hi da).toNat), .int .u64 ((Wd.lo da).toNat)])]) ⟨rfl, trivial⟩
      refine Sx.step_on rfl (Sx.d_call (vs := [.agg #[.int .u64 ((Wd.hi da).toNat), .int .u64 ((Wd.lo da).toNat)]]) (v := .string (Dg.str da.toNat)) if_22 F H rfl rfl (wprint_c da _)) ?_
      rintro xv w' ⟨hx, H⟩
      exact ⟨(fun cv hc => hx.trans (Option.some.inj (Option.some.inj hc))), H⟩
    · show Sx.StepAt _ _ _ _ _ _ _ 2
      intro L A w up hun hd F H
      have F := Sx.Fr.to F (kv' := [(3, .pointer (some ⟨g2, 0, none⟩))]) ⟨rfl, trivial⟩
      refine Sx.step_on rfl (Sx.d_load (i := 3) (xs := [.int .u64 ((Wd.hi db).toNat), .int .u64 ((Wd.lo db).toNat)]) rw_24 F H rfl rfl rfl rfl rfl) ?_
      rintro xv w' ⟨hx, rfl⟩
      exact ⟨(fun cv hc => hx.trans (Option.some.inj (Option.some.inj hc))), H⟩
    · show Sx.StepAt _ _ _ _ _ _ _ 3
      intro L A w up hun hd F H
      have F := Sx.Fr.to F (kv' := [(40, .agg #[.int .u64 ((Wd.hi db).toNat), .int .u64 ((Wd.lo db).toNat)])]) ⟨rfl, trivial⟩
      refine Sx.step_on rfl (Sx.d_call (vs := [.agg #[.int .u64 ((Wd.hi db).toNat), .int .u64 ((Wd.lo db).toNat)]]) (v := .string (Dg.str db.toNat)) if_22 F H rfl rfl (wprint_c db _)) ?_
      rintro xv w' ⟨hx, H⟩
      exact ⟨(fun cv hc => hx.trans (Option.some.inj (Option.some.inj hc))), H⟩
    · show Sx.StepAt _ _ _ _ _ _ _ 4
      intro L A w up hun hd F H
      have F := Sx.Fr.to F (kv' := [(39, .string (Dg.str da.toNat))]) ⟨rfl, trivial⟩
      refine Sx.step_on rfl (Sx.d_move F (Or.inr rfl) rfl) ?_
      rintro xv w' ⟨hx, rfl⟩
      exact ⟨(fun cv hc => hx.trans (Option.some.inj (Option.some.inj hc))), H⟩
    · show Sx.StepAt _ _ _ _ _ _ _ 5
      intro L A w up hun hd F H
      have F := Sx.Fr.to F (kv' := [(41, .string (Dg.str db.toNat))]) ⟨rfl, trivial⟩
      refine Sx.step_on rfl (Sx.d_move F (Or.inr rfl) rfl) ?_
      rintro xv w' ⟨hx, rfl⟩
      exact ⟨(fun cv hc => hx.trans (Option.some.inj (Option.some.inj hc))), H⟩
  · intro L A w hL F H
    have F := Sx.Fr.to F (kv' := [(2, .pointer (some ⟨g1, 0, none⟩)), (3, .pointer (some ⟨g2, 0, none⟩)), (4, .bool false), (5, .pointer (some ⟨g3, 0, none⟩)), (6, .bool (Wd.over da db)), (8, .bool (Wd.less da db)), (9, .pointer (some ⟨g5, 0, none⟩)), (10, .int .i64 0), (11, .int .i64 (Wd.cmp da db)), (12, .string (Dg.str da.toNat)), (13, .string (Dg.str db.toNat))]) ⟨rfl, rfl, rfl, rfl, rfl, rfl, rfl, rfl, rfl, rfl, rfl, trivial⟩
    refine hK8 _ _ ?_
    rcases Nat.lt_trichotomy da.toNat db.toNat with hl | hl | hl
    · have hc : Wd.cmp da db = -1 := Wd.cmpN_lt hl
      rcases Dg.order_lt da.isLt db.isLt hl with hn | ⟨hn, hg⟩
      · skip
        refine Sx.seq (fun K9 hK9 => ?_)
        refine Sx.plain ?_
        refine Sx.sv F (Sx.d_move F (Or.inl rfl) rfl) (Sx.wanted_none rfl _) rfl (by decide) (fun A F => ?_)
        refine Sx.sv F (Sx.d_lenStr (m := (Dg.len da.toNat)) Sx.undStr F rfl rfl (Dg.str_size _)) (Sx.wanted_none rfl _) rfl (by decide) (fun A F => ?_)
        refine Sx.sv F (Sx.d_move F (Or.inl rfl) rfl) (Sx.wanted_none rfl _) rfl (by decide) (fun A F => ?_)
        refine Sx.sv F (Sx.d_lenStr (m := (Dg.len db.toNat)) Sx.undStr F rfl rfl (Dg.str_size _)) (Sx.wanted_none rfl _) rfl (by decide) (fun A F => ?_)
        refine Sx.sv F (Sx.d_bin (v := .bool false) F rfl rfl rfl (Sx.i_gt (decide_eq_false (by omega)))) (Sx.wanted_none rfl _) rfl (by decide) (fun A F => ?_)
        refine Sx.sv F (Sx.d_move F (Or.inl rfl) rfl) (Sx.wanted_none rfl _) rfl (by decide) (fun A F => ?_)
        refine Sx.sv F (Sx.d_move F (Or.inl rfl) rfl) (Sx.wanted_on rfl (Sx.guard_known (d := 47) (b := false) F rfl rfl) rfl) rfl (by decide) (fun A F => ?_)
        refine Sx.sv F (Sx.d_lenStr (m := (Dg.len da.toNat)) Sx.undStr F rfl rfl (Dg.str_size _)) (Sx.wanted_on rfl (Sx.guard_known (d := 47) (b := false) F rfl rfl) rfl) rfl (by decide) (fun A F => ?_)
        refine Sx.sv F (Sx.d_move F (Or.inl rfl) rfl) (Sx.wanted_on rfl (Sx.guard_known (d := 47) (b := false) F rfl rfl) rfl) rfl (by decide) (fun A F => ?_)
        refine Sx.sv F (Sx.d_lenStr (m := (Dg.len db.toNat)) Sx.undStr F rfl rfl (Dg.str_size _)) (Sx.wanted_on rfl (Sx.guard_known (d := 47) (b := false) F rfl rfl) rfl) rfl (by decide) (fun A F => ?_)
        refine Sx.sv F (Sx.d_bin (v := .bool false) F rfl rfl rfl (Sx.i_eq (beq_false_of_ne (by omega)))) (Sx.wanted_on rfl (Sx.guard_known (d := 47) (b := false) F rfl rfl) rfl) rfl (by decide) (fun A F => ?_)
        refine Sx.sv F (Sx.d_move F (Or.inl rfl) rfl) (Sx.wanted_on rfl (Sx.guard_known (d := 47) (b := false) F rfl rfl) rfl) rfl (by decide) (fun A F => ?_)
        refine Sx.su F (Sx.wanted_off rfl (Sx.guard_known (d := 53) (b := false) F rfl rfl) rfl) rfl (by decide) (fun A F => ?_)
        refine Sx.su F (Sx.wanted_off rfl (Sx.guard_known (d := 53) (b := false) F rfl rfl) rfl) rfl (by decide) (fun A F => ?_)
        refine Sx.su F (Sx.wanted_off rfl (Sx.guard_known (d := 53) (b := false) F rfl rfl) rfl) rfl (by decide) (fun A F => ?_)
        refine Sx.sv F (Sx.d_pickF (v := .bool false) F rfl rfl rfl) (Sx.wanted_on rfl (Sx.guard_known (d := 47) (b := false) F rfl rfl) rfl) rfl (by decide) (fun A F => ?_)
        refine Sx.sv F (Sx.d_pickF (v := .bool false) F rfl rfl rfl) (Sx.wanted_none rfl _) rfl (by decide) (fun A F => ?_)
        refine Sx.sv F (Sx.d_move F (Or.inr rfl) rfl) (Sx.wanted_none rfl _) rfl (by decide) (fun A F => ?_)
        refine Sx.nil ?_
        refine hK9 _ _ ?_
        refine Sx.seq (fun K10 hK10 => ?_)
        refine Sx.plain ?_
        refine Sx.sv F (Sx.d_move F (Or.inl rfl) rfl) (Sx.wanted_none rfl _) rfl (by decide) (fun A F => ?_)
        refine Sx.sv F (Sx.d_load (i := 3) (xs := [.int .u64 ((Wd.hi db).toNat), .int .u64 ((Wd.lo db).toNat)]) rw_24 F H rfl rfl rfl rfl rfl) (Sx.wanted_none rfl _) rfl (by decide) (fun A F => ?_)
        refine Sx.sv F (Sx.d_load (i := 4) (xs := [.int .u64 ((Wd.hi da).toNat), .int .u64 ((Wd.lo da).toNat)]) rw_24 F H rfl rfl rfl rfl rfl) (Sx.wanted_none rfl _) rfl (by decide) (fun A F => ?_)
        refine Sx.sw F (Sx.d_call (vs := [.agg #[.int .u64 ((Wd.hi db).toNat), .int .u64 ((Wd.lo db).toNat)], .agg #[.int .u64 ((Wd.hi da).toNat), .int .u64 ((Wd.lo da).toNat)]]) (v := .int .i64 (Wd.cmp db da)) if_17 F H rfl rfl (wcmp_c db da _)) (Sx.wanted_none rfl _) rfl (by decide) (fun A w F H => ?_)
        refine Sx.sv F (Sx.d_un (v := .int .i64 (-(Wd.cmp db da))) F rfl rfl (Sx.i_negS (Sx.in64 _ (by have := Wd.cmp_le db da; omega)))) (Sx.wanted_none rfl _) rfl (by decide) (fun A F => ?_)
        refine Sx.sv F (Sx.d_bin (v := .bool true) F rfl rfl rfl (Sx.i_eq (beq_iff_eq.2 (Wd.cmp_neg da db)))) (Sx.wanted_none rfl _) rfl (by decide) (fun A F => ?_)
        refine Sx.sv F (Sx.d_move F (Or.inl rfl) rfl) (Sx.wanted_none rfl _) rfl (by decide) (fun A F => ?_)
        refine Sx.sv F (Sx.d_move F (Or.inl rfl) rfl) (Sx.wanted_on rfl (Sx.guard_known (d := 65) (b := true) F rfl rfl) rfl) rfl (by decide) (fun A F => ?_)
        refine Sx.sv F (Sx.d_bin (v := .bool (((Wd.cmp da db) : Int) == 0)) F rfl rfl rfl (Sx.i_eq rfl)) (Sx.wanted_on rfl (Sx.guard_known (d := 65) (b := true) F rfl rfl) rfl) rfl (by decide) (fun A F => ?_)
        refine Sx.sv F (Sx.d_load (i := 4) (xs := [.int .u64 ((Wd.hi da).toNat), .int .u64 ((Wd.lo da).toNat)]) rw_24 F H rfl rfl rfl rfl rfl) (Sx.wanted_on rfl (Sx.guard_known (d := 65) (b := true) F rfl rfl) rfl) rfl (by decide) (fun A F => ?_)
        refine Sx.sv F (Sx.d_load (i := 3) (xs := [.int .u64 ((Wd.hi db).toNat), .int .u64 ((Wd.lo db).toNat)]) rw_24 F H rfl rfl rfl rfl rfl) (Sx.wanted_on rfl (Sx.guard_known (d := 65) (b := true) F rfl rfl) rfl) rfl (by decide) (fun A F => ?_)
        refine Sx.sv F (Sx.d_bin (v := .bool (Wd.eqb da db)) F rfl rfl rfl (Sx.i_eqV rfl)) (Sx.wanted_on rfl (Sx.guard_known (d := 65) (b := true) F rfl rfl) rfl) rfl (by decide) (fun A F => ?_)
        refine Sx.sv F (Sx.d_bin (v := .bool true) F rfl rfl rfl (Sx.b_eq (beq_iff_eq.2 (Wd.cmp_zero da db)))) (Sx.wanted_on rfl (Sx.guard_known (d := 65) (b := true) F rfl rfl) rfl) rfl (by decide) (fun A F => ?_)
        refine Sx.sv F (Sx.d_pickT (v := .bool true) F rfl rfl rfl) (Sx.wanted_none rfl _) rfl (by decide) (fun A F => ?_)
        refine Sx.sv F (Sx.d_move F (Or.inl rfl) rfl) (Sx.wanted_none rfl _) rfl (by decide) (fun A F => ?_)
        refine Sx.sv F (Sx.d_move F (Or.inl rfl) rfl) (Sx.wanted_on rfl (Sx.guard_known (d := 73) (b := true) F rfl rfl) rfl) rfl (by decide) (fun A F => ?_)
        refine Sx.sv F (Sx.d_bin (v := .bool (decide (((Wd.cmp da db) : Int) < 0))) F rfl rfl rfl (Sx.i_lt rfl)) (Sx.wanted_on rfl (Sx.guard_known (d := 73) (b := true) F rfl rfl) rfl) rfl (by decide) (fun A F => ?_)
        refine Sx.sv F (Sx.d_move F (Or.inl rfl) rfl) (Sx.wanted_on rfl (Sx.guard_known (d := 73) (b := true) F rfl rfl) rfl) rfl (by decide) (fun A F => ?_)
        refine Sx.sv F (Sx.d_bin (v := .bool true) F rfl rfl rfl (Sx.b_eq (beq_iff_eq.2 (Wd.cmp_less da db)))) (Sx.wanted_on rfl (Sx.guard_known (d := 73) (b := true) F rfl rfl) rfl) rfl (by decide) (fun A F => ?_)
        refine Sx.sv F (Sx.d_pickT (v := .bool true) F rfl rfl rfl) (Sx.wanted_none rfl _) rfl (by decide) (fun A F => ?_)
        refine Sx.sv F (Sx.d_move F (Or.inl rfl) rfl) (Sx.wanted_none rfl _) rfl (by decide) (fun A F => ?_)
        refine Sx.sv F (Sx.d_move F (Or.inl rfl) rfl) (Sx.wanted_on rfl (Sx.guard_known (d := 79) (b := true) F rfl rfl) rfl) rfl (by decide) (fun A F => ?_)
        refine Sx.sv F (Sx.d_load (i := 2) (xs := [.int .u64 ((Wd.hi (da + db)).toNat), .int .u64 ((Wd.lo (da + db)).toNat)]) rw_24 F H rfl rfl rfl rfl rfl) (Sx.wanted_on rfl (Sx.guard_known (d := 79) (b := true) F rfl rfl) rfl) rfl (by decide) (fun A F => ?_)
        refine Sx.sv F (Sx.d_load (i := 4) (xs := [.int .u64 ((Wd.hi da).toNat), .int .u64 ((Wd.lo da).toNat)]) rw_24 F H rfl rfl rfl rfl rfl) (Sx.wanted_on rfl (Sx.guard_known (d := 79) (b := true) F rfl rfl) rfl) rfl (by decide) (fun A F => ?_)
        refine Sx.sw F (Sx.d_call (vs := [.agg #[.int .u64 ((Wd.hi (da + db)).toNat), .int .u64 ((Wd.lo (da + db)).toNat)], .agg #[.int .u64 ((Wd.hi da).toNat), .int .u64 ((Wd.lo da).toNat)]]) (v := .int .i64 (Wd.cmp (da + db) da)) if_17 F H rfl rfl (wcmp_c (da + db) da _)) (Sx.wanted_on rfl (Sx.guard_known (d := 79) (b := true) F rfl rfl) rfl) rfl (by decide) (fun A w F H => ?_)
        refine Sx.sv F (Sx.d_bin (v := .bool (decide (((Wd.cmp (da + db) da) : Int) < 0))) F rfl rfl rfl (Sx.i_lt rfl)) (Sx.wanted_on rfl (Sx.guard_known (d := 79) (b := true) F rfl rfl) rfl) rfl (by decide) (fun A F => ?_)
        refine Sx.sv F (Sx.d_bin (v := .bool true) F rfl rfl rfl (Sx.b_eq (beq_iff_eq.2 (Wd.over_cmp da db)))) (Sx.wanted_on rfl (Sx.guard_known (d := 79) (b := true) F rfl rfl) rfl) rfl (by decide) (fun A F => ?_)
        refine Sx.sv F (Sx.d_pickT (v := .bool true) F rfl rfl rfl) (Sx.wanted_none rfl _) rfl (by decide) (fun A F => ?_)
        refine Sx.sv F (Sx.d_move F (Or.inl rfl) rfl) (Sx.wanted_none rfl _) rfl (by decide) (fun A F => ?_)
        refine Sx.sv F (Sx.d_load (i := 0) (xs := [.int .u64 ((Wd.hi (By.val (By.put da) 16)).toNat), .int .u64 ((Wd.lo (By.val (By.put da) 16)).toNat)]) rw_24 F H rfl rfl rfl rfl rfl) (Sx.wanted_on rfl (Sx.guard_known (d := 87) (b := true) F rfl rfl) rfl) rfl (by decide) (fun A F => ?_)
        refine Sx.sv F (Sx.d_load (i := 4) (xs := [.int .u64 ((Wd.hi da).toNat), .int .u64 ((Wd.lo da).toNat)]) rw_24 F H rfl rfl rfl rfl rfl) (Sx.wanted_on rfl (Sx.guard_known (d := 87) (b := true) F rfl rfl) rfl) rfl (by decide) (fun A F => ?_)
        refine Sx.sv F (Sx.d_bin (v := .bool true) F rfl rfl rfl (Sx.i_eqV (decide_eq_true (By.back da)))) (Sx.wanted_on rfl (Sx.guard_known (d := 87) (b := true) F rfl rfl) rfl) rfl (by decide) (fun A F => ?_)
        refine Sx.sv F (Sx.d_pickT (v := .bool true) F rfl rfl rfl) (Sx.wanted_none rfl _) rfl (by decide) (fun A F => ?_)
        refine Sx.sv F (Sx.d_move F (Or.inl rfl) rfl) (Sx.wanted_none rfl _) rfl (by decide) (fun A F => ?_)
        refine Sx.sv F (Sx.d_move F (Or.inl rfl) rfl) (Sx.wanted_on rfl (Sx.guard_known (d := 92) (b := true) F rfl rfl) rfl) rfl (by decide) (fun A F => ?_)
        refine Sx.sv F (Sx.d_bin (v := .bool true) F rfl rfl rfl (Sx.i_eq (by decide))) (Sx.wanted_on rfl (Sx.guard_known (d := 92) (b := true) F rfl rfl) rfl) rfl (by decide) (fun A F => ?_)
        refine Sx.sv F (Sx.d_pickT (v := .bool true) F rfl rfl rfl) (Sx.wanted_none rfl _) rfl (by decide) (fun A F => ?_)
        refine Sx.sv F (Sx.d_move F (Or.inl rfl) rfl) (Sx.wanted_none rfl _) rfl (by decide) (fun A F => ?_)
        refine Sx.sv F (Sx.d_move F (Or.inl rfl) rfl) (Sx.wanted_on rfl (Sx.guard_known (d := 96) (b := true) F rfl rfl) rfl) rfl (by decide) (fun A F => ?_)
        refine Sx.sv F (Sx.d_bin (v := .bool false) F rfl rfl rfl (Sx.i_gt (by rw [hc]; rfl))) (Sx.wanted_on rfl (Sx.guard_known (d := 96) (b := true) F rfl rfl) rfl) rfl (by decide) (fun A F => ?_)
        refine Sx.sv F (Sx.d_move F (Or.inl rfl) rfl) (Sx.wanted_on rfl (Sx.guard_known (d := 96) (b := true) F rfl rfl) rfl) rfl (by decide) (fun A F => ?_)
        refine Sx.sv F (Sx.d_bin (v := .bool true) F rfl rfl rfl (Sx.b_eq (by simp))) (Sx.wanted_on rfl (Sx.guard_known (d := 96) (b := true) F rfl rfl) rfl) rfl (by decide) (fun A F => ?_)
        refine Sx.sv F (Sx.d_pickT (v := .bool true) F rfl rfl rfl) (Sx.wanted_none rfl _) rfl (by decide) (fun A F => ?_)
        refine Sx.sv F (Sx.d_move F (Or.inr rfl) rfl) (Sx.wanted_none rfl _) rfl (by decide) (fun A F => ?_)
        refine Sx.nil ?_
        refine hK10 _ _ ?_
        refine wp_ret ?_
        try dsimp only [Exit.then, Exit.inBlock, Exit.jump]
        refine Sx.ret1 F Try.results5 (Sx.res_tmp (v := .bool true) F rfl) ⟨?_, H.below⟩
        rfl
      · skip
        refine Sx.seq (fun K11 hK11 => ?_)
        refine Sx.plain ?_
        refine Sx.sv F (Sx.d_move F (Or.inl rfl) rfl) (Sx.wanted_none rfl _) rfl (by decide) (fun A F => ?_)
        refine Sx.sv F (Sx.d_lenStr (m := (Dg.len da.toNat)) Sx.undStr F rfl rfl (Dg.str_size _)) (Sx.wanted_none rfl _) rfl (by decide) (fun A F => ?_)
        refine Sx.sv F (Sx.d_move F (Or.inl rfl) rfl) (Sx.wanted_none rfl _) rfl (by decide) (fun A F => ?_)
        refine Sx.sv F (Sx.d_lenStr (m := (Dg.len db.toNat)) Sx.undStr F rfl rfl (Dg.str_size _)) (Sx.wanted_none rfl _) rfl (by decide) (fun A F => ?_)
        refine Sx.sv F (Sx.d_bin (v := .bool false) F rfl rfl rfl (Sx.i_gt (decide_eq_false (by omega)))) (Sx.wanted_none rfl _) rfl (by decide) (fun A F => ?_)
        refine Sx.sv F (Sx.d_move F (Or.inl rfl) rfl) (Sx.wanted_none rfl _) rfl (by decide) (fun A F => ?_)
        refine Sx.sv F (Sx.d_move F (Or.inl rfl) rfl) (Sx.wanted_on rfl (Sx.guard_known (d := 47) (b := false) F rfl rfl) rfl) rfl (by decide) (fun A F => ?_)
        refine Sx.sv F (Sx.d_lenStr (m := (Dg.len da.toNat)) Sx.undStr F rfl rfl (Dg.str_size _)) (Sx.wanted_on rfl (Sx.guard_known (d := 47) (b := false) F rfl rfl) rfl) rfl (by decide) (fun A F => ?_)
        refine Sx.sv F (Sx.d_move F (Or.inl rfl) rfl) (Sx.wanted_on rfl (Sx.guard_known (d := 47) (b := false) F rfl rfl) rfl) rfl (by decide) (fun A F => ?_)
        refine Sx.sv F (Sx.d_lenStr (m := (Dg.len db.toNat)) Sx.undStr F rfl rfl (Dg.str_size _)) (Sx.wanted_on rfl (Sx.guard_known (d := 47) (b := false) F rfl rfl) rfl) rfl (by decide) (fun A F => ?_)
        refine Sx.sv F (Sx.d_bin (v := .bool true) F rfl rfl rfl (Sx.i_eq (beq_iff_eq.2 (by omega)))) (Sx.wanted_on rfl (Sx.guard_known (d := 47) (b := false) F rfl rfl) rfl) rfl (by decide) (fun A F => ?_)
        refine Sx.sv F (Sx.d_move F (Or.inl rfl) rfl) (Sx.wanted_on rfl (Sx.guard_known (d := 47) (b := false) F rfl rfl) rfl) rfl (by decide) (fun A F => ?_)
        refine Sx.sv F (Sx.d_move F (Or.inl rfl) rfl) (Sx.wanted_on rfl (Sx.guard_known (d := 53) (b := true) F rfl rfl) rfl) rfl (by decide) (fun A F => ?_)
        refine Sx.sv F (Sx.d_move F (Or.inl rfl) rfl) (Sx.wanted_on rfl (Sx.guard_known (d := 53) (b := true) F rfl rfl) rfl) rfl (by decide) (fun A F => ?_)
        refine Sx.sv F (Sx.d_bin (v := .bool false) F rfl rfl rfl (Sx.i_sgt (hg))) (Sx.wanted_on rfl (Sx.guard_known (d := 53) (b := true) F rfl rfl) rfl) rfl (by decide) (fun A F => ?_)
        refine Sx.sv F (Sx.d_pickT (v := .bool false) F rfl rfl rfl) (Sx.wanted_on rfl (Sx.guard_known (d := 47) (b := false) F rfl rfl) rfl) rfl (by decide) (fun A F => ?_)
        refine Sx.sv F (Sx.d_pickF (v := .bool false) F rfl rfl rfl) (Sx.wanted_none rfl _) rfl (by decide) (fun A F => ?_)
        refine Sx.sv F (Sx.d_move F (Or.inr rfl) rfl) (Sx.wanted_none rfl _) rfl (by decide) (fun A F => ?_)
        refine Sx.nil ?_
        refine hK11 _ _ ?_
        refine Sx.seq (fun K12 hK12 => ?_)
        refine Sx.plain ?_
        refine Sx.sv F (Sx.d_move F (Or.inl rfl) rfl) (Sx.wanted_none rfl _) rfl (by decide) (fun A F => ?_)
        refine Sx.sv F (Sx.d_load (i := 3) (xs := [.int .u64 ((Wd.hi db).toNat), .int .u64 ((Wd.lo db).toNat)]) rw_24 F H rfl rfl rfl rfl rfl) (Sx.wanted_none rfl _) rfl (by decide) (fun A F => ?_)
        refine Sx.sv F (Sx.d_load (i := 4) (xs := [.int .u64 ((Wd.hi da).toNat), .int .u64 ((Wd.lo da).toNat)]) rw_24 F H rfl rfl rfl rfl rfl) (Sx.wanted_none rfl _) rfl (by decide) (fun A F => ?_)
        refine Sx.sw F (Sx.d_call (vs := [.agg #[.int .u64 ((Wd.hi db).toNat), .int .u64 ((Wd.lo db).toNat)], .agg #[.int .u64 ((Wd.hi da).toNat), .int .u64 ((Wd.lo da).toNat)]]) (v := .int .i64 (Wd.cmp db da)) if_17 F H rfl rfl (wcmp_c db da _)) (Sx.wanted_none rfl _) rfl (by decide) (fun A w F H => ?_)
        refine Sx.sv F (Sx.d_un (v := .int .i64 (-(Wd.cmp db da))) F rfl rfl (Sx.i_negS (Sx.in64 _ (by have := Wd.cmp_le db da; omega)))) (Sx.wanted_none rfl _) rfl (by decide) (fun A F => ?_)
        refine Sx.sv F (Sx.d_bin (v := .bool true) F rfl rfl rfl (Sx.i_eq (beq_iff_eq.2 (Wd.cmp_neg da db)))) (Sx.wanted_none rfl _) rfl (by decide) (fun A F => ?_)
        refine Sx.sv F (Sx.d_move F (Or.inl rfl) rfl) (Sx.wanted_none rfl _) rfl (by decide) (fun A F => ?_)
        refine Sx.sv F (Sx.d_move F (Or.inl rfl) rfl) (Sx.wanted_on rfl (Sx.guard_known (d := 65) (b := true) F rfl rfl) rfl) rfl (by decide) (fun A F => ?_)
        refine Sx.sv F (Sx.d_bin (v := .bool (((Wd.cmp da db) : Int) == 0)) F rfl rfl rfl (Sx.i_eq rfl)) (Sx.wanted_on rfl (Sx.guard_known (d := 65) (b := true) F rfl rfl) rfl) rfl (by decide) (fun A F => ?_)
        refine Sx.sv F (Sx.d_load (i := 4) (xs := [.int .u64 ((Wd.hi da).toNat), .int .u64 ((Wd.lo da).toNat)]) rw_24 F H rfl rfl rfl rfl rfl) (Sx.wanted_on rfl (Sx.guard_known (d := 65) (b := true) F rfl rfl) rfl) rfl (by decide) (fun A F => ?_)
        refine Sx.sv F (Sx.d_load (i := 3) (xs := [.int .u64 ((Wd.hi db).toNat), .int .u64 ((Wd.lo db).toNat)]) rw_24 F H rfl rfl rfl rfl rfl) (Sx.wanted_on rfl (Sx.guard_known (d := 65) (b := true) F rfl rfl) rfl) rfl (by decide) (fun A F => ?_)
        refine Sx.sv F (Sx.d_bin (v := .bool (Wd.eqb da db)) F rfl rfl rfl (Sx.i_eqV rfl)) (Sx.wanted_on rfl (Sx.guard_known (d := 65) (b := true) F rfl rfl) rfl) rfl (by decide) (fun A F => ?_)
        refine Sx.sv F (Sx.d_bin (v := .bool true) F rfl rfl rfl (Sx.b_eq (beq_iff_eq.2 (Wd.cmp_zero da db)))) (Sx.wanted_on rfl (Sx.guard_known (d := 65) (b := true) F rfl rfl) rfl) rfl (by decide) (fun A F => ?_)
        refine Sx.sv F (Sx.d_pickT (v := .bool true) F rfl rfl rfl) (Sx.wanted_none rfl _) rfl (by decide) (fun A F => ?_)
        refine Sx.sv F (Sx.d_move F (Or.inl rfl) rfl) (Sx.wanted_none rfl _) rfl (by decide) (fun A F => ?_)
        refine Sx.sv F (Sx.d_move F (Or.inl rfl) rfl) (Sx.wanted_on rfl (Sx.guard_known (d := 73) (b := true) F rfl rfl) rfl) rfl (by decide) (fun A F => ?_)
        refine Sx.sv F (Sx.d_bin (v := .bool (decide (((Wd.cmp da db) : Int) < 0))) F rfl rfl rfl (Sx.i_lt rfl)) (Sx.wanted_on rfl (Sx.guard_known (d := 73) (b := true) F rfl rfl) rfl) rfl (by decide) (fun A F => ?_)
        refine Sx.sv F (Sx.d_move F (Or.inl rfl) rfl) (Sx.wanted_on rfl (Sx.guard_known (d := 73) (b := true) F rfl rfl) rfl) rfl (by decide) (fun A F => ?_)
        refine Sx.sv F (Sx.d_bin (v := .bool true) F rfl rfl rfl (Sx.b_eq (beq_iff_eq.2 (Wd.cmp_less da db)))) (Sx.wanted_on rfl (Sx.guard_known (d := 73) (b := true) F rfl rfl) rfl) rfl (by decide) (fun A F => ?_)
        refine Sx.sv F (Sx.d_pickT (v := .bool true) F rfl rfl rfl) (Sx.wanted_none rfl _) rfl (by decide) (fun A F => ?_)
        refine Sx.sv F (Sx.d_move F (Or.inl rfl) rfl) (Sx.wanted_none rfl _) rfl (by decide) (fun A F => ?_)
        refine Sx.sv F (Sx.d_move F (Or.inl rfl) rfl) (Sx.wanted_on rfl (Sx.guard_known (d := 79) (b := true) F rfl rfl) rfl) rfl (by decide) (fun A F => ?_)
        refine Sx.sv F (Sx.d_load (i := 2) (xs := [.int .u64 ((Wd.hi (da + db)).toNat), .int .u64 ((Wd.lo (da + db)).toNat)]) rw_24 F H rfl rfl rfl rfl rfl) (Sx.wanted_on rfl (Sx.guard_known (d := 79) (b := true) F rfl rfl) rfl) rfl (by decide) (fun A F => ?_)
        refine Sx.sv F (Sx.d_load (i := 4) (xs := [.int .u64 ((Wd.hi da).toNat), .int .u64 ((Wd.lo da).toNat)]) rw_24 F H rfl rfl rfl rfl rfl) (Sx.wanted_on rfl (Sx.guard_known (d := 79) (b := true) F rfl rfl) rfl) rfl (by decide) (fun A F => ?_)
        refine Sx.sw F (Sx.d_call (vs := [.agg #[.int .u64 ((Wd.hi (da + db)).toNat), .int .u64 ((Wd.lo (da + db)).toNat)], .agg #[.int .u64 ((Wd.hi da).toNat), .int .u64 ((Wd.lo da).toNat)]]) (v := .int .i64 (Wd.cmp (da + db) da)) if_17 F H rfl rfl (wcmp_c (da + db) da _)) (Sx.wanted_on rfl (Sx.guard_known (d := 79) (b := true) F rfl rfl) rfl) rfl (by decide) (fun A w F H => ?_)
        refine Sx.sv F (Sx.d_bin (v := .bool (decide (((Wd.cmp (da + db) da) : Int) < 0))) F rfl rfl rfl (Sx.i_lt rfl)) (Sx.wanted_on rfl (Sx.guard_known (d := 79) (b := true) F rfl rfl) rfl) rfl (by decide) (fun A F => ?_)
        refine Sx.sv F (Sx.d_bin (v := .bool true) F rfl rfl rfl (Sx.b_eq (beq_iff_eq.2 (Wd.over_cmp da db)))) (Sx.wanted_on rfl (Sx.guard_known (d := 79) (b := true) F rfl rfl) rfl) rfl (by decide) (fun A F => ?_)
        refine Sx.sv F (Sx.d_pickT (v := .bool true) F rfl rfl rfl) (Sx.wanted_none rfl _) rfl (by decide) (fun A F => ?_)
        refine Sx.sv F (Sx.d_move F (Or.inl rfl) rfl) (Sx.wanted_none rfl _) rfl (by decide) (fun A F => ?_)
        refine Sx.sv F (Sx.d_load (i := 0) (xs := [.int .u64 ((Wd.hi (By.val (By.put da) 16)).toNat), .int .u64 ((Wd.lo (By.val (By.put da) 16)).toNat)]) rw_24 F H rfl rfl rfl rfl rfl) (Sx.wanted_on rfl (Sx.guard_known (d := 87) (b := true) F rfl rfl) rfl) rfl (by decide) (fun A F => ?_)
        refine Sx.sv F (Sx.d_load (i := 4) (xs := [.int .u64 ((Wd.hi da).toNat), .int .u64 ((Wd.lo da).toNat)]) rw_24 F H rfl rfl rfl rfl rfl) (Sx.wanted_on rfl (Sx.guard_known (d := 87) (b := true) F rfl rfl) rfl) rfl (by decide) (fun A F => ?_)
        refine Sx.sv F (Sx.d_bin (v := .bool true) F rfl rfl rfl (Sx.i_eqV (decide_eq_true (By.back da)))) (Sx.wanted_on rfl (Sx.guard_known (d := 87) (b := true) F rfl rfl) rfl) rfl (by decide) (fun A F => ?_)
        refine Sx.sv F (Sx.d_pickT (v := .bool true) F rfl rfl rfl) (Sx.wanted_none rfl _) rfl (by decide) (fun A F => ?_)
        refine Sx.sv F (Sx.d_move F (Or.inl rfl) rfl) (Sx.wanted_none rfl _) rfl (by decide) (fun A F => ?_)
        refine Sx.sv F (Sx.d_move F (Or.inl rfl) rfl) (Sx.wanted_on rfl (Sx.guard_known (d := 92) (b := true) F rfl rfl) rfl) rfl (by decide) (fun A F => ?_)
        refine Sx.sv F (Sx.d_bin (v := .bool true) F rfl rfl rfl (Sx.i_eq (by decide))) (Sx.wanted_on rfl (Sx.guard_known (d := 92) (b := true) F rfl rfl) rfl) rfl (by decide) (fun A F => ?_)
        refine Sx.sv F (Sx.d_pickT (v := .bool true) F rfl rfl rfl) (Sx.wanted_none rfl _) rfl (by decide) (fun A F => ?_)
        refine Sx.sv F (Sx.d_move F (Or.inl rfl) rfl) (Sx.wanted_none rfl _) rfl (by decide) (fun A F => ?_)
        refine Sx.sv F (Sx.d_move F (Or.inl rfl) rfl) (Sx.wanted_on rfl (Sx.guard_known (d := 96) (b := true) F rfl rfl) rfl) rfl (by decide) (fun A F => ?_)
        refine Sx.sv F (Sx.d_bin (v := .bool false) F rfl rfl rfl (Sx.i_gt (by rw [hc]; rfl))) (Sx.wanted_on rfl (Sx.guard_known (d := 96) (b := true) F rfl rfl) rfl) rfl (by decide) (fun A F => ?_)
        refine Sx.sv F (Sx.d_move F (Or.inl rfl) rfl) (Sx.wanted_on rfl (Sx.guard_known (d := 96) (b := true) F rfl rfl) rfl) rfl (by decide) (fun A F => ?_)
        refine Sx.sv F (Sx.d_bin (v := .bool true) F rfl rfl rfl (Sx.b_eq (by simp))) (Sx.wanted_on rfl (Sx.guard_known (d := 96) (b := true) F rfl rfl) rfl) rfl (by decide) (fun A F => ?_)
        refine Sx.sv F (Sx.d_pickT (v := .bool true) F rfl rfl rfl) (Sx.wanted_none rfl _) rfl (by decide) (fun A F => ?_)
        refine Sx.sv F (Sx.d_move F (Or.inr rfl) rfl) (Sx.wanted_none rfl _) rfl (by decide) (fun A F => ?_)
        refine Sx.nil ?_
        refine hK12 _ _ ?_
        refine wp_ret ?_
        try dsimp only [Exit.then, Exit.inBlock, Exit.jump]
        refine Sx.ret1 F Try.results5 (Sx.res_tmp (v := .bool true) F rfl) ⟨?_, H.below⟩
        rfl
    · have hc : Wd.cmp da db = 0 := Wd.cmpN_eq hl
      have hn : Dg.len da.toNat = Dg.len db.toNat := by rw [hl]
      have hg : Dg.gt da.toNat db.toNat = false := by rw [hl]; exact Dg.order_eq db.isLt
      refine Sx.seq (fun K13 hK13 => ?_)
      refine Sx.plain ?_
      refine Sx.sv F (Sx.d_move F (Or.inl rfl) rfl) (Sx.wanted_none rfl _) rfl (by decide) (fun A F => ?_)
      refine Sx.sv F (Sx.d_lenStr (m := (Dg.len da.toNat)) Sx.undStr F rfl rfl (Dg.str_size _)) (Sx.wanted_none rfl _) rfl (by decide) (fun A F => ?_)
      refine Sx.sv F (Sx.d_move F (Or.inl rfl) rfl) (Sx.wanted_none rfl _) rfl (by decide) (fun A F => ?_)
      refine Sx.sv F (Sx.d_lenStr (m := (Dg.len db.toNat)) Sx.undStr F rfl rfl (Dg.str_size _)) (Sx.wanted_none rfl _) rfl (by decide) (fun A F => ?_)
      refine Sx.sv F (Sx.d_bin (v := .bool false) F rfl rfl rfl (Sx.i_gt (decide_eq_false (by omega)))) (Sx.wanted_none rfl _) rfl (by decide) (fun A F => ?_)
      refine Sx.sv F (Sx.d_move F (Or.inl rfl) rfl) (Sx.wanted_none rfl _) rfl (by decide) (fun A F => ?_)
      refine Sx.sv F (Sx.d_move F (Or.inl rfl) rfl) (Sx.wanted_on rfl (Sx.guard_known (d := 47) (b := false) F rfl rfl) rfl) rfl (by decide) (fun A F => ?_)
      refine Sx.sv F (Sx.d_lenStr (m := (Dg.len da.toNat)) Sx.undStr F rfl rfl (Dg.str_size _)) (Sx.wanted_on rfl (Sx.guard_known (d := 47) (b := false) F rfl rfl) rfl) rfl (by decide) (fun A F => ?_)
      refine Sx.sv F (Sx.d_move F (Or.inl rfl) rfl) (Sx.wanted_on rfl (Sx.guard_known (d := 47) (b := false) F rfl rfl) rfl) rfl (by decide) (fun A F => ?_)
      refine Sx.sv F (Sx.d_lenStr (m := (Dg.len db.toNat)) Sx.undStr F rfl rfl (Dg.str_size _)) (Sx.wanted_on rfl (Sx.guard_known (d := 47) (b := false) F rfl rfl) rfl) rfl (by decide) (fun A F => ?_)
      refine Sx.sv F (Sx.d_bin (v := .bool true) F rfl rfl rfl (Sx.i_eq (beq_iff_eq.2 (by omega)))) (Sx.wanted_on rfl (Sx.guard_known (d := 47) (b := false) F rfl rfl) rfl) rfl (by decide) (fun A F => ?_)
      refine Sx.sv F (Sx.d_move F (Or.inl rfl) rfl) (Sx.wanted_on rfl (Sx.guard_known (d := 47) (b := false) F rfl rfl) rfl) rfl (by decide) (fun A F => ?_)
      refine Sx.sv F (Sx.d_move F (Or.inl rfl) rfl) (Sx.wanted_on rfl (Sx.guard_known (d := 53) (b := true) F rfl rfl) rfl) rfl (by decide) (fun A F => ?_)
      refine Sx.sv F (Sx.d_move F (Or.inl rfl) rfl) (Sx.wanted_on rfl (Sx.guard_known (d := 53) (b := true) F rfl rfl) rfl) rfl (by decide) (fun A F => ?_)
      refine Sx.sv F (Sx.d_bin (v := .bool false) F rfl rfl rfl (Sx.i_sgt (hg))) (Sx.wanted_on rfl (Sx.guard_known (d := 53) (b := true) F rfl rfl) rfl) rfl (by decide) (fun A F => ?_)
      refine Sx.sv F (Sx.d_pickT (v := .bool false) F rfl rfl rfl) (Sx.wanted_on rfl (Sx.guard_known (d := 47) (b := false) F rfl rfl) rfl) rfl (by decide) (fun A F => ?_)
      refine Sx.sv F (Sx.d_pickF (v := .bool false) F rfl rfl rfl) (Sx.wanted_none rfl _) rfl (by decide) (fun A F => ?_)
      refine Sx.sv F (Sx.d_move F (Or.inr rfl) rfl) (Sx.wanted_none rfl _) rfl (by decide) (fun A F => ?_)
      refine Sx.nil ?_
      refine hK13 _ _ ?_
      refine Sx.seq (fun K14 hK14 => ?_)
      refine Sx.plain ?_
      refine Sx.sv F (Sx.d_move F (Or.inl rfl) rfl) (Sx.wanted_none rfl _) rfl (by decide) (fun A F => ?_)
      refine Sx.sv F (Sx.d_load (i := 3) (xs := [.int .u64 ((Wd.hi db).toNat), .int .u64 ((Wd.lo db).toNat)]) rw_24 F H rfl rfl rfl rfl rfl) (Sx.wanted_none rfl _) rfl (by decide) (fun A F => ?_)
      refine Sx.sv F (Sx.d_load (i := 4) (xs := [.int .u64 ((Wd.hi da).toNat), .int .u64 ((Wd.lo da).toNat)]) rw_24 F H rfl rfl rfl rfl rfl) (Sx.wanted_none rfl _) rfl (by decide) (fun A F => ?_)
      refine Sx.sw F (Sx.d_call (vs := [.agg #[.int .u64 ((Wd.hi db).toNat), .int .u64 ((Wd.lo db).toNat)], .agg #[.int .u64 ((Wd.hi da).toNat), .int .u64 ((Wd.lo da).toNat)]]) (v := .int .i64 (Wd.cmp db da)) if_17 F H rfl rfl (wcmp_c db da _)) (Sx.wanted_none rfl _) rfl (by decide) (fun A w F H => ?_)
      refine Sx.sv F (Sx.d_un (v := .int .i64 (-(Wd.cmp db da))) F rfl rfl (Sx.i_negS (Sx.in64 _ (by have := Wd.cmp_le db da; omega)))) (Sx.wanted_none rfl _) rfl (by decide) (fun A F => ?_)
      refine Sx.sv F (Sx.d_bin (v := .bool true) F rfl rfl rfl (Sx.i_eq (beq_iff_eq.2 (Wd.cmp_neg da db)))) (Sx.wanted_none rfl _) rfl (by decide) (fun A F => ?_)
      refine Sx.sv F (Sx.d_move F (Or.inl rfl) rfl) (Sx.wanted_none rfl _) rfl (by decide) (fun A F => ?_)
      refine Sx.sv F (Sx.d_move F (Or.inl rfl) rfl) (Sx.wanted_on rfl (Sx.guard_known (d := 65) (b := true) F rfl rfl) rfl) rfl (by decide) (fun A F => ?_)
      refine Sx.sv F (Sx.d_bin (v := .bool (((Wd.cmp da db) : Int) == 0)) F rfl rfl rfl (Sx.i_eq rfl)) (Sx.wanted_on rfl (Sx.guard_known (d := 65) (b := true) F rfl rfl) rfl) rfl (by decide) (fun A F => ?_)
      refine Sx.sv F (Sx.d_load (i := 4) (xs := [.int .u64 ((Wd.hi da).toNat), .int .u64 ((Wd.lo da).toNat)]) rw_24 F H rfl rfl rfl rfl rfl) (Sx.wanted_on rfl (Sx.guard_known (d := 65) (b := true) F rfl rfl) rfl) rfl (by decide) (fun A F => ?_)
      refine Sx.sv F (Sx.d_load (i := 3) (xs := [.int .u64 ((Wd.hi db).toNat), .int .u64 ((Wd.lo db).toNat)]) rw_24 F H rfl rfl rfl rfl rfl) (Sx.wanted_on rfl (Sx.guard_known (d := 65) (b := true) F rfl rfl) rfl) rfl (by decide) (fun A F => ?_)
      refine Sx.sv F (Sx.d_bin (v := .bool (Wd.eqb da db)) F rfl rfl rfl (Sx.i_eqV rfl)) (Sx.wanted_on rfl (Sx.guard_known (d := 65) (b := true) F rfl rfl) rfl) rfl (by decide) (fun A F => ?_)
      refine Sx.sv F (Sx.d_bin (v := .bool true) F rfl rfl rfl (Sx.b_eq (beq_iff_eq.2 (Wd.cmp_zero da db)))) (Sx.wanted_on rfl (Sx.guard_known (d := 65) (b := true) F rfl rfl) rfl) rfl (by decide) (fun A F => ?_)
      refine Sx.sv F (Sx.d_pickT (v := .bool true) F rfl rfl rfl) (Sx.wanted_none rfl _) rfl (by decide) (fun A F => ?_)
      refine Sx.sv F (Sx.d_move F (Or.inl rfl) rfl) (Sx.wanted_none rfl _) rfl (by decide) (fun A F => ?_)
      refine Sx.sv F (Sx.d_move F (Or.inl rfl) rfl) (Sx.wanted_on rfl (Sx.guard_known (d := 73) (b := true) F rfl rfl) rfl) rfl (by decide) (fun A F => ?_)
      refine Sx.sv F (Sx.d_bin (v := .bool (decide (((Wd.cmp da db) : Int) < 0))) F rfl rfl rfl (Sx.i_lt rfl)) (Sx.wanted_on rfl (Sx.guard_known (d := 73) (b := true) F rfl rfl) rfl) rfl (by decide) (fun A F => ?_)
      refine Sx.sv F (Sx.d_move F (Or.inl rfl) rfl) (Sx.wanted_on rfl (Sx.guard_known (d := 73) (b := true) F rfl rfl) rfl) rfl (by decide) (fun A F => ?_)
      refine Sx.sv F (Sx.d_bin (v := .bool true) F rfl rfl rfl (Sx.b_eq (beq_iff_eq.2 (Wd.cmp_less da db)))) (Sx.wanted_on rfl (Sx.guard_known (d := 73) (b := true) F rfl rfl) rfl) rfl (by decide) (fun A F => ?_)
      refine Sx.sv F (Sx.d_pickT (v := .bool true) F rfl rfl rfl) (Sx.wanted_none rfl _) rfl (by decide) (fun A F => ?_)
      refine Sx.sv F (Sx.d_move F (Or.inl rfl) rfl) (Sx.wanted_none rfl _) rfl (by decide) (fun A F => ?_)
      refine Sx.sv F (Sx.d_move F (Or.inl rfl) rfl) (Sx.wanted_on rfl (Sx.guard_known (d := 79) (b := true) F rfl rfl) rfl) rfl (by decide) (fun A F => ?_)
      refine Sx.sv F (Sx.d_load (i := 2) (xs := [.int .u64 ((Wd.hi (da + db)).toNat), .int .u64 ((Wd.lo (da + db)).toNat)]) rw_24 F H rfl rfl rfl rfl rfl) (Sx.wanted_on rfl (Sx.guard_known (d := 79) (b := true) F rfl rfl) rfl) rfl (by decide) (fun A F => ?_)
      refine Sx.sv F (Sx.d_load (i := 4) (xs := [.int .u64 ((Wd.hi da).toNat), .int .u64 ((Wd.lo da).toNat)]) rw_24 F H rfl rfl rfl rfl rfl) (Sx.wanted_on rfl (Sx.guard_known (d := 79) (b := true) F rfl rfl) rfl) rfl (by decide) (fun A F => ?_)
      refine Sx.sw F (Sx.d_call (vs := [.agg #[.int .u64 ((Wd.hi (da + db)).toNat), .int .u64 ((Wd.lo (da + db)).toNat)], .agg #[.int .u64 ((Wd.hi da).toNat), .int .u64 ((Wd.lo da).toNat)]]) (v := .int .i64 (Wd.cmp (da + db) da)) if_17 F H rfl rfl (wcmp_c (da + db) da _)) (Sx.wanted_on rfl (Sx.guard_known (d := 79) (b := true) F rfl rfl) rfl) rfl (by decide) (fun A w F H => ?_)
      refine Sx.sv F (Sx.d_bin (v := .bool (decide (((Wd.cmp (da + db) da) : Int) < 0))) F rfl rfl rfl (Sx.i_lt rfl)) (Sx.wanted_on rfl (Sx.guard_known (d := 79) (b := true) F rfl rfl) rfl) rfl (by decide) (fun A F => ?_)
      refine Sx.sv F (Sx.d_bin (v := .bool true) F rfl rfl rfl (Sx.b_eq (beq_iff_eq.2 (Wd.over_cmp da db)))) (Sx.wanted_on rfl (Sx.guard_known (d := 79) (b := true) F rfl rfl) rfl) rfl (by decide) (fun A F => ?_)
      refine Sx.sv F (Sx.d_pickT (v := .bool true) F rfl rfl rfl) (Sx.wanted_none rfl _) rfl (by decide) (fun A F => ?_)
      refine Sx.sv F (Sx.d_move F (Or.inl rfl) rfl) (Sx.wanted_none rfl _) rfl (by decide) (fun A F => ?_)
      refine Sx.sv F (Sx.d_load (i := 0) (xs := [.int .u64 ((Wd.hi (By.val (By.put da) 16)).toNat), .int .u64 ((Wd.lo (By.val (By.put da) 16)).toNat)]) rw_24 F H rfl rfl rfl rfl rfl) (Sx.wanted_on rfl (Sx.guard_known (d := 87) (b := true) F rfl rfl) rfl) rfl (by decide) (fun A F => ?_)
      refine Sx.sv F (Sx.d_load (i := 4) (xs := [.int .u64 ((Wd.hi da).toNat), .int .u64 ((Wd.lo da).toNat)]) rw_24 F H rfl rfl rfl rfl rfl) (Sx.wanted_on rfl (Sx.guard_known (d := 87) (b := true) F rfl rfl) rfl) rfl (by decide) (fun A F => ?_)
      refine Sx.sv F (Sx.d_bin (v := .bool true) F rfl rfl rfl (Sx.i_eqV (decide_eq_true (By.back da)))) (Sx.wanted_on rfl (Sx.guard_known (d := 87) (b := true) F rfl rfl) rfl) rfl (by decide) (fun A F => ?_)
      refine Sx.sv F (Sx.d_pickT (v := .bool true) F rfl rfl rfl) (Sx.wanted_none rfl _) rfl (by decide) (fun A F => ?_)
      refine Sx.sv F (Sx.d_move F (Or.inl rfl) rfl) (Sx.wanted_none rfl _) rfl (by decide) (fun A F => ?_)
      refine Sx.sv F (Sx.d_move F (Or.inl rfl) rfl) (Sx.wanted_on rfl (Sx.guard_known (d := 92) (b := true) F rfl rfl) rfl) rfl (by decide) (fun A F => ?_)
      refine Sx.sv F (Sx.d_bin (v := .bool true) F rfl rfl rfl (Sx.i_eq (by decide))) (Sx.wanted_on rfl (Sx.guard_known (d := 92) (b := true) F rfl rfl) rfl) rfl (by decide) (fun A F => ?_)
      refine Sx.sv F (Sx.d_pickT (v := .bool true) F rfl rfl rfl) (Sx.wanted_none rfl _) rfl (by decide) (fun A F => ?_)
      refine Sx.sv F (Sx.d_move F (Or.inl rfl) rfl) (Sx.wanted_none rfl _) rfl (by decide) (fun A F => ?_)
      refine Sx.sv F (Sx.d_move F (Or.inl rfl) rfl) (Sx.wanted_on rfl (Sx.guard_known (d := 96) (b := true) F rfl rfl) rfl) rfl (by decide) (fun A F => ?_)
      refine Sx.sv F (Sx.d_bin (v := .bool false) F rfl rfl rfl (Sx.i_gt (by rw [hc]; rfl))) (Sx.wanted_on rfl (Sx.guard_known (d := 96) (b := true) F rfl rfl) rfl) rfl (by decide) (fun A F => ?_)
      refine Sx.sv F (Sx.d_move F (Or.inl rfl) rfl) (Sx.wanted_on rfl (Sx.guard_known (d := 96) (b := true) F rfl rfl) rfl) rfl (by decide) (fun A F => ?_)
      refine Sx.sv F (Sx.d_bin (v := .bool true) F rfl rfl rfl (Sx.b_eq (by simp))) (Sx.wanted_on rfl (Sx.guard_known (d := 96) (b := true) F rfl rfl) rfl) rfl (by decide) (fun A F => ?_)
      refine Sx.sv F (Sx.d_pickT (v := .bool true) F rfl rfl rfl) (Sx.wanted_none rfl _) rfl (by decide) (fun A F => ?_)
      refine Sx.sv F (Sx.d_move F (Or.inr rfl) rfl) (Sx.wanted_none rfl _) rfl (by decide) (fun A F => ?_)
      refine Sx.nil ?_
      refine hK14 _ _ ?_
      refine wp_ret ?_
      try dsimp only [Exit.then, Exit.inBlock, Exit.jump]
      refine Sx.ret1 F Try.results5 (Sx.res_tmp (v := .bool true) F rfl) ⟨?_, H.below⟩
      rfl
    · have hc : Wd.cmp da db = 1 := Wd.cmpN_gt hl
      rcases Dg.order_gt da.isLt db.isLt hl with hn | ⟨hn, hg⟩
      · skip
        refine Sx.seq (fun K15 hK15 => ?_)
        refine Sx.plain ?_
        refine Sx.sv F (Sx.d_move F (Or.inl rfl) rfl) (Sx.wanted_none rfl _) rfl (by decide) (fun A F => ?_)
        refine Sx.sv F (Sx.d_lenStr (m := (Dg.len da.toNat)) Sx.undStr F rfl rfl (Dg.str_size _)) (Sx.wanted_none rfl _) rfl (by decide) (fun A F => ?_)
        refine Sx.sv F (Sx.d_move F (Or.inl rfl) rfl) (Sx.wanted_none rfl _) rfl (by decide) (fun A F => ?_)
        refine Sx.sv F (Sx.d_lenStr (m := (Dg.len db.toNat)) Sx.undStr F rfl rfl (Dg.str_size _)) (Sx.wanted_none rfl _) rfl (by decide) (fun A F => ?_)
        refine Sx.sv F (Sx.d_bin (v := .bool true) F rfl rfl rfl (Sx.i_gt (decide_eq_true (by omega)))) (Sx.wanted_none rfl _) rfl (by decide) (fun A F => ?_)
        refine Sx.sv F (Sx.d_move F (Or.inl rfl) rfl) (Sx.wanted_none rfl _) rfl (by decide) (fun A F => ?_)
        refine Sx.su F (Sx.wanted_off rfl (Sx.guard_known (d := 47) (b := true) F rfl rfl) rfl) rfl (by decide) (fun A F => ?_)
        refine Sx.su F (Sx.wanted_off rfl (Sx.guard_known (d := 47) (b := true) F rfl rfl) rfl) rfl (by decide) (fun A F => ?_)
        refine Sx.su F (Sx.wanted_off rfl (Sx.guard_known (d := 47) (b := true) F rfl rfl) rfl) rfl (by decide) (fun A F => ?_)
        refine Sx.su F (Sx.wanted_off rfl (Sx.guard_known (d := 47) (b := true) F rfl rfl) rfl) rfl (by decide) (fun A F => ?_)
        refine Sx.su F (Sx.wanted_off rfl (Sx.guard_known (d := 47) (b := true) F rfl rfl) rfl) rfl (by decide) (fun A F => ?_)
        refine Sx.su F (Sx.wanted_off rfl (Sx.guard_known (d := 47) (b := true) F rfl rfl) rfl) rfl (by decide) (fun A F => ?_)
        refine Sx.su F (Sx.wanted_undef rfl (Sx.guard_undef (d := 53) F rfl rfl)) rfl (by decide) (fun A F => ?_)
        refine Sx.su F (Sx.wanted_undef rfl (Sx.guard_undef (d := 53) F rfl rfl)) rfl (by decide) (fun A F => ?_)
        refine Sx.su F (Sx.wanted_undef rfl (Sx.guard_undef (d := 53) F rfl rfl)) rfl (by decide) (fun A F => ?_)
        refine Sx.su F (Sx.wanted_off rfl (Sx.guard_known (d := 47) (b := true) F rfl rfl) rfl) rfl (by decide) (fun A F => ?_)
        refine Sx.sv F (Sx.d_pickT (v := .bool true) F rfl rfl rfl) (Sx.wanted_none rfl _) rfl (by decide) (fun A F => ?_)
        refine Sx.sv F (Sx.d_move F (Or.inr rfl) rfl) (Sx.wanted_none rfl _) rfl (by decide) (fun A F => ?_)
        refine Sx.nil ?_
        refine hK15 _ _ ?_
        refine Sx.seq (fun K16 hK16 => ?_)
        refine Sx.plain ?_
        refine Sx.sv F (Sx.d_move F (Or.inl rfl) rfl) (Sx.wanted_none rfl _) rfl (by decide) (fun A F => ?_)
        refine Sx.sv F (Sx.d_load (i := 3) (xs := [.int .u64 ((Wd.hi db).toNat), .int .u64 ((Wd.lo db).toNat)]) rw_24 F H rfl rfl rfl rfl rfl) (Sx.wanted_none rfl _) rfl (by decide) (fun A F => ?_)
        refine Sx.sv F (Sx.d_load (i := 4) (xs := [.int .u64 ((Wd.hi da).toNat), .int .u64 ((Wd.lo da).toNat)]) rw_24 F H rfl rfl rfl rfl rfl) (Sx.wanted_none rfl _) rfl (by decide) (fun A F => ?_)
        refine Sx.sw F (Sx.d_call (vs := [.agg #[.int .u64 ((Wd.hi db).toNat), .int .u64 ((Wd.lo db).toNat)], .agg #[.int .u64 ((Wd.hi da).toNat), .int .u64 ((Wd.lo da).toNat)]]) (v := .int .i64 (Wd.cmp db da)) if_17 F H rfl rfl (wcmp_c db da _)) (Sx.wanted_none rfl _) rfl (by decide) (fun A w F H => ?_)
        refine Sx.sv F (Sx.d_un (v := .int .i64 (-(Wd.cmp db da))) F rfl rfl (Sx.i_negS (Sx.in64 _ (by have := Wd.cmp_le db da; omega)))) (Sx.wanted_none rfl _) rfl (by decide) (fun A F => ?_)
        refine Sx.sv F (Sx.d_bin (v := .bool true) F rfl rfl rfl (Sx.i_eq (beq_iff_eq.2 (Wd.cmp_neg da db)))) (Sx.wanted_none rfl _) rfl (by decide) (fun A F => ?_)
        refine Sx.sv F (Sx.d_move F (Or.inl rfl) rfl) (Sx.wanted_none rfl _) rfl (by decide) (fun A F => ?_)
        refine Sx.sv F (Sx.d_move F (Or.inl rfl) rfl) (Sx.wanted_on rfl (Sx.guard_known (d := 65) (b := true) F rfl rfl) rfl) rfl (by decide) (fun A F => ?_)
        refine Sx.sv F (Sx.d_bin (v := .bool (((Wd.cmp da db) : Int) == 0)) F rfl rfl rfl (Sx.i_eq rfl)) (Sx.wanted_on rfl (Sx.guard_known (d := 65) (b := true) F rfl rfl) rfl) rfl (by decide) (fun A F => ?_)
        refine Sx.sv F (Sx.d_load (i := 4) (xs := [.int .u64 ((Wd.hi da).toNat), .int .u64 ((Wd.lo da).toNat)]) rw_24 F H rfl rfl rfl rfl rfl) (Sx.wanted_on rfl (Sx.guard_known (d := 65) (b := true) F rfl rfl) rfl) rfl (by decide) (fun A F => ?_)
        refine Sx.sv F (Sx.d_load (i := 3) (xs := [.int .u64 ((Wd.hi db).toNat), .int .u64 ((Wd.lo db).toNat)]) rw_24 F H rfl rfl rfl rfl rfl) (Sx.wanted_on rfl (Sx.guard_known (d := 65) (b := true) F rfl rfl) rfl) rfl (by decide) (fun A F => ?_)
        refine Sx.sv F (Sx.d_bin (v := .bool (Wd.eqb da db)) F rfl rfl rfl (Sx.i_eqV rfl)) (Sx.wanted_on rfl (Sx.guard_known (d := 65) (b := true) F rfl rfl) rfl) rfl (by decide) (fun A F => ?_)
        refine Sx.sv F (Sx.d_bin (v := .bool true) F rfl rfl rfl (Sx.b_eq (beq_iff_eq.2 (Wd.cmp_zero da db)))) (Sx.wanted_on rfl (Sx.guard_known (d := 65) (b := true) F rfl rfl) rfl) rfl (by decide) (fun A F => ?_)
        refine Sx.sv F (Sx.d_pickT (v := .bool true) F rfl rfl rfl) (Sx.wanted_none rfl _) rfl (by decide) (fun A F => ?_)
        refine Sx.sv F (Sx.d_move F (Or.inl rfl) rfl) (Sx.wanted_none rfl _) rfl (by decide) (fun A F => ?_)
        refine Sx.sv F (Sx.d_move F (Or.inl rfl) rfl) (Sx.wanted_on rfl (Sx.guard_known (d := 73) (b := true) F rfl rfl) rfl) rfl (by decide) (fun A F => ?_)
        refine Sx.sv F (Sx.d_bin (v := .bool (decide (((Wd.cmp da db) : Int) < 0))) F rfl rfl rfl (Sx.i_lt rfl)) (Sx.wanted_on rfl (Sx.guard_known (d := 73) (b := true) F rfl rfl) rfl) rfl (by decide) (fun A F => ?_)
        refine Sx.sv F (Sx.d_move F (Or.inl rfl) rfl) (Sx.wanted_on rfl (Sx.guard_known (d := 73) (b := true) F rfl rfl) rfl) rfl (by decide) (fun A F => ?_)
        refine Sx.sv F (Sx.d_bin (v := .bool true) F rfl rfl rfl (Sx.b_eq (beq_iff_eq.2 (Wd.cmp_less da db)))) (Sx.wanted_on rfl (Sx.guard_known (d := 73) (b := true) F rfl rfl) rfl) rfl (by decide) (fun A F => ?_)
        refine Sx.sv F (Sx.d_pickT (v := .bool true) F rfl rfl rfl) (Sx.wanted_none rfl _) rfl (by decide) (fun A F => ?_)
        refine Sx.sv F (Sx.d_move F (Or.inl rfl) rfl) (Sx.wanted_none rfl _) rfl (by decide) (fun A F => ?_)
        refine Sx.sv F (Sx.d_move F (Or.inl rfl) rfl) (Sx.wanted_on rfl (Sx.guard_known (d := 79) (b := true) F rfl rfl) rfl) rfl (by decide) (fun A F => ?_)
        refine Sx.sv F (Sx.d_load (i := 2) (xs := [.int .u64 ((Wd.hi (da + db)).toNat), .int .u64 ((Wd.lo (da + db)).toNat)]) rw_24 F H rfl rfl rfl rfl rfl) (Sx.wanted_on rfl (Sx.guard_known (d := 79) (b := true) F rfl rfl) rfl) rfl (by decide) (fun A F => ?_)
        refine Sx.sv F (Sx.d_load (i := 4) (xs := [.int .u64 ((Wd.hi da).toNat), .int .u64 ((Wd.lo da).toNat)]) rw_24 F H rfl rfl rfl rfl rfl) (Sx.wanted_on rfl (Sx.guard_known (d := 79) (b := true) F rfl rfl) rfl) rfl (by decide) (fun A F => ?_)
        refine Sx.sw F (Sx.d_call (vs := [.agg #[.int .u64 ((Wd.hi (da + db)).toNat), .int .u64 ((Wd.lo (da + db)).toNat)], .agg #[.int .u64 ((Wd.hi da).toNat), .int .u64 ((Wd.lo da).toNat)]]) (v := .int .i64 (Wd.cmp (da + db) da)) if_17 F H rfl rfl (wcmp_c (da + db) da _)) (Sx.wanted_on rfl (Sx.guard_known (d := 79) (b := true) F rfl rfl) rfl) rfl (by decide) (fun A w F H => ?_)
        refine Sx.sv F (Sx.d_bin (v := .bool (decide (((Wd.cmp (da + db) da) : Int) < 0))) F rfl rfl rfl (Sx.i_lt rfl)) (Sx.wanted_on rfl (Sx.guard_known (d := 79) (b := true) F rfl rfl) rfl) rfl (by decide) (fun A F => ?_)
        refine Sx.sv F (Sx.d_bin (v := .bool true) F rfl rfl rfl (Sx.b_eq (beq_iff_eq.2 (Wd.over_cmp da db)))) (Sx.wanted_on rfl (Sx.guard_known (d := 79) (b := true) F rfl rfl) rfl) rfl (by decide) (fun A F => ?_)
        refine Sx.sv F (Sx.d_pickT (v := .bool true) F rfl rfl rfl) (Sx.wanted_none rfl _) rfl (by decide) (fun A F => ?_)
        refine Sx.sv F (Sx.d_move F (Or.inl rfl) rfl) (Sx.wanted_none rfl _) rfl (by decide) (fun A F => ?_)
        refine Sx.sv F (Sx.d_load (i := 0) (xs := [.int .u64 ((Wd.hi (By.val (By.put da) 16)).toNat), .int .u64 ((Wd.lo (By.val (By.put da) 16)).toNat)]) rw_24 F H rfl rfl rfl rfl rfl) (Sx.wanted_on rfl (Sx.guard_known (d := 87) (b := true) F rfl rfl) rfl) rfl (by decide) (fun A F => ?_)
        refine Sx.sv F (Sx.d_load (i := 4) (xs := [.int .u64 ((Wd.hi da).toNat), .int .u64 ((Wd.lo da).toNat)]) rw_24 F H rfl rfl rfl rfl rfl) (Sx.wanted_on rfl (Sx.guard_known (d := 87) (b := true) F rfl rfl) rfl) rfl (by decide) (fun A F => ?_)
        refine Sx.sv F (Sx.d_bin (v := .bool true) F rfl rfl rfl (Sx.i_eqV (decide_eq_true (By.back da)))) (Sx.wanted_on rfl (Sx.guard_known (d := 87) (b := true) F rfl rfl) rfl) rfl (by decide) (fun A F => ?_)
        refine Sx.sv F (Sx.d_pickT (v := .bool true) F rfl rfl rfl) (Sx.wanted_none rfl _) rfl (by decide) (fun A F => ?_)
        refine Sx.sv F (Sx.d_move F (Or.inl rfl) rfl) (Sx.wanted_none rfl _) rfl (by decide) (fun A F => ?_)
        refine Sx.sv F (Sx.d_move F (Or.inl rfl) rfl) (Sx.wanted_on rfl (Sx.guard_known (d := 92) (b := true) F rfl rfl) rfl) rfl (by decide) (fun A F => ?_)
        refine Sx.sv F (Sx.d_bin (v := .bool true) F rfl rfl rfl (Sx.i_eq (by decide))) (Sx.wanted_on rfl (Sx.guard_known (d := 92) (b := true) F rfl rfl) rfl) rfl (by decide) (fun A F => ?_)
        refine Sx.sv F (Sx.d_pickT (v := .bool true) F rfl rfl rfl) (Sx.wanted_none rfl _) rfl (by decide) (fun A F => ?_)
        refine Sx.sv F (Sx.d_move F (Or.inl rfl) rfl) (Sx.wanted_none rfl _) rfl (by decide) (fun A F => ?_)
        refine Sx.sv F (Sx.d_move F (Or.inl rfl) rfl) (Sx.wanted_on rfl (Sx.guard_known (d := 96) (b := true) F rfl rfl) rfl) rfl (by decide) (fun A F => ?_)
        refine Sx.sv F (Sx.d_bin (v := .bool true) F rfl rfl rfl (Sx.i_gt (by rw [hc]; rfl))) (Sx.wanted_on rfl (Sx.guard_known (d := 96) (b := true) F rfl rfl) rfl) rfl (by decide) (fun A F => ?_)
        refine Sx.sv F (Sx.d_move F (Or.inl rfl) rfl) (Sx.wanted_on rfl (Sx.guard_known (d := 96) (b := true) F rfl rfl) rfl) rfl (by decide) (fun A F => ?_)
        refine Sx.sv F (Sx.d_bin (v := .bool true) F rfl rfl rfl (Sx.b_eq (by simp))) (Sx.wanted_on rfl (Sx.guard_known (d := 96) (b := true) F rfl rfl) rfl) rfl (by decide) (fun A F => ?_)
        refine Sx.sv F (Sx.d_pickT (v := .bool true) F rfl rfl rfl) (Sx.wanted_none rfl _) rfl (by decide) (fun A F => ?_)
        refine Sx.sv F (Sx.d_move F (Or.inr rfl) rfl) (Sx.wanted_none rfl _) rfl (by decide) (fun A F => ?_)
        refine Sx.nil ?_
        refine hK16 _ _ ?_
        refine wp_ret ?_
        try dsimp only [Exit.then, Exit.inBlock, Exit.jump]
        refine Sx.ret1 F Try.results5 (Sx.res_tmp (v := .bool true) F rfl) ⟨?_, H.below⟩
        rfl
      · skip
        refine Sx.seq (fun K17 hK17 => ?_)
        refine Sx.plain ?_
        refine Sx.sv F (Sx.d_move F (Or.inl rfl) rfl) (Sx.wanted_none rfl _) rfl (by decide) (fun A F => ?_)
        refine Sx.sv F (Sx.d_lenStr (m := (Dg.len da.toNat)) Sx.undStr F rfl rfl (Dg.str_size _)) (Sx.wanted_none rfl _) rfl (by decide) (fun A F => ?_)
        refine Sx.sv F (Sx.d_move F (Or.inl rfl) rfl) (Sx.wanted_none rfl _) rfl (by decide) (fun A F => ?_)
        refine Sx.sv F (Sx.d_lenStr (m := (Dg.len db.toNat)) Sx.undStr F rfl rfl (Dg.str_size _)) (Sx.wanted_none rfl _) rfl (by decide) (fun A F => ?_)
        refine Sx.sv F (Sx.d_bin (v := .bool false) F rfl rfl rfl (Sx.i_gt (decide_eq_false (by omega)))) (Sx.wanted_none rfl _) rfl (by decide) (fun A F => ?_)
        refine Sx.sv F (Sx.d_move F (Or.inl rfl) rfl) (Sx.wanted_none rfl _) rfl (by decide) (fun A F => ?_)
        refine Sx.sv F (Sx.d_move F (Or.inl rfl) rfl) (Sx.wanted_on rfl (Sx.guard_known (d := 47) (b := false) F rfl rfl) rfl) rfl (by decide) (fun A F => ?_)
        refine Sx.sv F (Sx.d_lenStr (m := (Dg.len da.toNat)) Sx.undStr F rfl rfl (Dg.str_size _)) (Sx.wanted_on rfl (Sx.guard_known (d := 47) (b := false) F rfl rfl) rfl) rfl (by decide) (fun A F => ?_)
        refine Sx.sv F (Sx.d_move F (Or.inl rfl) rfl) (Sx.wanted_on rfl (Sx.guard_known (d := 47) (b := false) F rfl rfl) rfl) rfl (by decide) (fun A F => ?_)
        refine Sx.sv F (Sx.d_lenStr (m := (Dg.len db.toNat)) Sx.undStr F rfl rfl (Dg.str_size _)) (Sx.wanted_on rfl (Sx.guard_known (d := 47) (b := false) F rfl rfl) rfl) rfl (by decide) (fun A F => ?_)
        refine Sx.sv F (Sx.d_bin (v := .bool true) F rfl rfl rfl (Sx.i_eq (beq_iff_eq.2 (by omega)))) (Sx.wanted_on rfl (Sx.guard_known (d := 47) (b := false) F rfl rfl) rfl) rfl (by decide) (fun A F => ?_)
        refine Sx.sv F (Sx.d_move F (Or.inl rfl) rfl) (Sx.wanted_on rfl (Sx.guard_known (d := 47) (b := false) F rfl rfl) rfl) rfl (by decide) (fun A F => ?_)
        refine Sx.sv F (Sx.d_move F (Or.inl rfl) rfl) (Sx.wanted_on rfl (Sx.guard_known (d := 53) (b := true) F rfl rfl) rfl) rfl (by decide) (fun A F => ?_)
        refine Sx.sv F (Sx.d_move F (Or.inl rfl) rfl) (Sx.wanted_on rfl (Sx.guard_known (d := 53) (b := true) F rfl rfl) rfl) rfl (by decide) (fun A F => ?_)
        refine Sx.sv F (Sx.d_bin (v := .bool true) F rfl rfl rfl (Sx.i_sgt (hg))) (Sx.wanted_on rfl (Sx.guard_known (d := 53) (b := true) F rfl rfl) rfl) rfl (by decide) (fun A F => ?_)
        refine Sx.sv F (Sx.d_pickT (v := .bool true) F rfl rfl rfl) (Sx.wanted_on rfl (Sx.guard_known (d := 47) (b := false) F rfl rfl) rfl) rfl (by decide) (fun A F => ?_)
        refine Sx.sv F (Sx.d_pickF (v := .bool true) F rfl rfl rfl) (Sx.wanted_none rfl _) rfl (by decide) (fun A F => ?_)
        refine Sx.sv F (Sx.d_move F (Or.inr rfl) rfl) (Sx.wanted_none rfl _) rfl (by decide) (fun A F => ?_)
        refine Sx.nil ?_
        refine hK17 _ _ ?_
        refine Sx.seq (fun K18 hK18 => ?_)
        refine Sx.plain ?_
        refine Sx.sv F (Sx.d_move F (Or.inl rfl) rfl) (Sx.wanted_none rfl _) rfl (by decide) (fun A F => ?_)
        refine Sx.sv F (Sx.d_load (i := 3) (xs := [.int .u64 ((Wd.hi db).toNat), .int .u64 ((Wd.lo db).toNat)]) rw_24 F H rfl rfl rfl rfl rfl) (Sx.wanted_none rfl _) rfl (by decide) (fun A F => ?_)
        refine Sx.sv F (Sx.d_load (i := 4) (xs := [.int .u64 ((Wd.hi da).toNat), .int .u64 ((Wd.lo da).toNat)]) rw_24 F H rfl rfl rfl rfl rfl) (Sx.wanted_none rfl _) rfl (by decide) (fun A F => ?_)
        refine Sx.sw F (Sx.d_call (vs := [.agg #[.int .u64 ((Wd.hi db).toNat), .int .u64 ((Wd.lo db).toNat)], .agg #[.int .u64 ((Wd.hi da).toNat), .int .u64 ((Wd.lo da).toNat)]]) (v := .int .i64 (Wd.cmp db da)) if_17 F H rfl rfl (wcmp_c db da _)) (Sx.wanted_none rfl _) rfl (by decide) (fun A w F H => ?_)
        refine Sx.sv F (Sx.d_un (v := .int .i64 (-(Wd.cmp db da))) F rfl rfl (Sx.i_negS (Sx.in64 _ (by have := Wd.cmp_le db da; omega)))) (Sx.wanted_none rfl _) rfl (by decide) (fun A F => ?_)
        refine Sx.sv F (Sx.d_bin (v := .bool true) F rfl rfl rfl (Sx.i_eq (beq_iff_eq.2 (Wd.cmp_neg da db)))) (Sx.wanted_none rfl _) rfl (by decide) (fun A F => ?_)
        refine Sx.sv F (Sx.d_move F (Or.inl rfl) rfl) (Sx.wanted_none rfl _) rfl (by decide) (fun A F => ?_)
        refine Sx.sv F (Sx.d_move F (Or.inl rfl) rfl) (Sx.wanted_on rfl (Sx.guard_known (d := 65) (b := true) F rfl rfl) rfl) rfl (by decide) (fun A F => ?_)
        refine Sx.sv F (Sx.d_bin (v := .bool (((Wd.cmp da db) : Int) == 0)) F rfl rfl rfl (Sx.i_eq rfl)) (Sx.wanted_on rfl (Sx.guard_known (d := 65) (b := true) F rfl rfl) rfl) rfl (by decide) (fun A F => ?_)
        refine Sx.sv F (Sx.d_load (i := 4) (xs := [.int .u64 ((Wd.hi da).toNat), .int .u64 ((Wd.lo da).toNat)]) rw_24 F H rfl rfl rfl rfl rfl) (Sx.wanted_on rfl (Sx.guard_known (d := 65) (b := true) F rfl rfl) rfl) rfl (by decide) (fun A F => ?_)
        refine Sx.sv F (Sx.d_load (i := 3) (xs := [.int .u64 ((Wd.hi db).toNat), .int .u64 ((Wd.lo db).toNat)]) rw_24 F H rfl rfl rfl rfl rfl) (Sx.wanted_on rfl (Sx.guard_known (d := 65) (b := true) F rfl rfl) rfl) rfl (by decide) (fun A F => ?_)
        refine Sx.sv F (Sx.d_bin (v := .bool (Wd.eqb da db)) F rfl rfl rfl (Sx.i_eqV rfl)) (Sx.wanted_on rfl (Sx.guard_known (d := 65) (b := true) F rfl rfl) rfl) rfl (by decide) (fun A F => ?_)
        refine Sx.sv F (Sx.d_bin (v := .bool true) F rfl rfl rfl (Sx.b_eq (beq_iff_eq.2 (Wd.cmp_zero da db)))) (Sx.wanted_on rfl (Sx.guard_known (d := 65) (b := true) F rfl rfl) rfl) rfl (by decide) (fun A F => ?_)
        refine Sx.sv F (Sx.d_pickT (v := .bool true) F rfl rfl rfl) (Sx.wanted_none rfl _) rfl (by decide) (fun A F => ?_)
        refine Sx.sv F (Sx.d_move F (Or.inl rfl) rfl) (Sx.wanted_none rfl _) rfl (by decide) (fun A F => ?_)
        refine Sx.sv F (Sx.d_move F (Or.inl rfl) rfl) (Sx.wanted_on rfl (Sx.guard_known (d := 73) (b := true) F rfl rfl) rfl) rfl (by decide) (fun A F => ?_)
        refine Sx.sv F (Sx.d_bin (v := .bool (decide (((Wd.cmp da db) : Int) < 0))) F rfl rfl rfl (Sx.i_lt rfl)) (Sx.wanted_on rfl (Sx.guard_known (d := 73) (b := true) F rfl rfl) rfl) rfl (by decide) (fun A F => ?_)
        refine Sx.sv F (Sx.d_move F (Or.inl rfl) rfl) (Sx.wanted_on rfl (Sx.guard_known (d := 73) (b := true) F rfl rfl) rfl) rfl (by decide) (fun A F => ?_)
        refine Sx.sv F (Sx.d_bin (v := .bool true) F rfl rfl rfl (Sx.b_eq (beq_iff_eq.2 (Wd.cmp_less da db)))) (Sx.wanted_on rfl (Sx.guard_known (d := 73) (b := true) F rfl rfl) rfl) rfl (by decide) (fun A F => ?_)
        refine Sx.sv F (Sx.d_pickT (v := .bool true) F rfl rfl rfl) (Sx.wanted_none rfl _) rfl (by decide) (fun A F => ?_)
        refine Sx.sv F (Sx.d_move F (Or.inl rfl) rfl) (Sx.wanted_none rfl _) rfl (by decide) (fun A F => ?_)
        refine Sx.sv F (Sx.d_move F (Or.inl rfl) rfl) (Sx.wanted_on rfl (Sx.guard_known (d := 79) (b := true) F rfl rfl) rfl) rfl (by decide) (fun A F => ?_)
        refine Sx.sv F (Sx.d_load (i := 2) (xs := [.int .u64 ((Wd.hi (da + db)).toNat), .int .u64 ((Wd.lo (da + db)).toNat)]) rw_24 F H rfl rfl rfl rfl rfl) (Sx.wanted_on rfl (Sx.guard_known (d := 79) (b := true) F rfl rfl) rfl) rfl (by decide) (fun A F => ?_)
        refine Sx.sv F (Sx.d_load (i := 4) (xs := [.int .u64 ((Wd.hi da).toNat), .int .u64 ((Wd.lo da).toNat)]) rw_24 F H rfl rfl rfl rfl rfl) (Sx.wanted_on rfl (Sx.guard_known (d := 79) (b := true) F rfl rfl) rfl) rfl (by decide) (fun A F => ?_)
        refine Sx.sw F (Sx.d_call (vs := [.agg #[.int .u64 ((Wd.hi (da + db)).toNat), .int .u64 ((Wd.lo (da + db)).toNat)], .agg #[.int .u64 ((Wd.hi da).toNat), .int .u64 ((Wd.lo da).toNat)]]) (v := .int .i64 (Wd.cmp (da + db) da)) if_17 F H rfl rfl (wcmp_c (da + db) da _)) (Sx.wanted_on rfl (Sx.guard_known (d := 79) (b := true) F rfl rfl) rfl) rfl (by decide) (fun A w F H => ?_)
        refine Sx.sv F (Sx.d_bin (v := .bool (decide (((Wd.cmp (da + db) da) : Int) < 0))) F rfl rfl rfl (Sx.i_lt rfl)) (Sx.wanted_on rfl (Sx.guard_known (d := 79) (b := true) F rfl rfl) rfl) rfl (by decide) (fun A F => ?_)
        refine Sx.sv F (Sx.d_bin (v := .bool true) F rfl rfl rfl (Sx.b_eq (beq_iff_eq.2 (Wd.over_cmp da db)))) (Sx.wanted_on rfl (Sx.guard_known (d := 79) (b := true) F rfl rfl) rfl) rfl (by decide) (fun A F => ?_)
        refine Sx.sv F (Sx.d_pickT (v := .bool true) F rfl rfl rfl) (Sx.wanted_none rfl _) rfl (by decide) (fun A F => ?_)
        refine Sx.sv F (Sx.d_move F (Or.inl rfl) rfl) (Sx.wanted_none rfl _) rfl (by decide) (fun A F => ?_)
        refine Sx.sv F (Sx.d_load (i := 0) (xs := [.int .u64 ((Wd.hi (By.val (By.put da) 16)).toNat), .int .u64 ((Wd.lo (By.val (By.put da) 16)).toNat)]) rw_24 F H rfl rfl rfl rfl rfl) (Sx.wanted_on rfl (Sx.guard_known (d := 87) (b := true) F rfl rfl) rfl) rfl (by decide) (fun A F => ?_)
        refine Sx.sv F (Sx.d_load (i := 4) (xs := [.int .u64 ((Wd.hi da).toNat), .int .u64 ((Wd.lo da).toNat)]) rw_24 F H rfl rfl rfl rfl rfl) (Sx.wanted_on rfl (Sx.guard_known (d := 87) (b := true) F rfl rfl) rfl) rfl (by decide) (fun A F => ?_)
        refine Sx.sv F (Sx.d_bin (v := .bool true) F rfl rfl rfl (Sx.i_eqV (decide_eq_true (By.back da)))) (Sx.wanted_on rfl (Sx.guard_known (d := 87) (b := true) F rfl rfl) rfl) rfl (by decide) (fun A F => ?_)
        refine Sx.sv F (Sx.d_pickT (v := .bool true) F rfl rfl rfl) (Sx.wanted_none rfl _) rfl (by decide) (fun A F => ?_)
        refine Sx.sv F (Sx.d_move F (Or.inl rfl) rfl) (Sx.wanted_none rfl _) rfl (by decide) (fun A F => ?_)
        refine Sx.sv F (Sx.d_move F (Or.inl rfl) rfl) (Sx.wanted_on rfl (Sx.guard_known (d := 92) (b := true) F rfl rfl) rfl) rfl (by decide) (fun A F => ?_)
        refine Sx.sv F (Sx.d_bin (v := .bool true) F rfl rfl rfl (Sx.i_eq (by decide))) (Sx.wanted_on rfl (Sx.guard_known (d := 92) (b := true) F rfl rfl) rfl) rfl (by decide) (fun A F => ?_)
        refine Sx.sv F (Sx.d_pickT (v := .bool true) F rfl rfl rfl) (Sx.wanted_none rfl _) rfl (by decide) (fun A F => ?_)
        refine Sx.sv F (Sx.d_move F (Or.inl rfl) rfl) (Sx.wanted_none rfl _) rfl (by decide) (fun A F => ?_)
        refine Sx.sv F (Sx.d_move F (Or.inl rfl) rfl) (Sx.wanted_on rfl (Sx.guard_known (d := 96) (b := true) F rfl rfl) rfl) rfl (by decide) (fun A F => ?_)
        refine Sx.sv F (Sx.d_bin (v := .bool true) F rfl rfl rfl (Sx.i_gt (by rw [hc]; rfl))) (Sx.wanted_on rfl (Sx.guard_known (d := 96) (b := true) F rfl rfl) rfl) rfl (by decide) (fun A F => ?_)
        refine Sx.sv F (Sx.d_move F (Or.inl rfl) rfl) (Sx.wanted_on rfl (Sx.guard_known (d := 96) (b := true) F rfl rfl) rfl) rfl (by decide) (fun A F => ?_)
        refine Sx.sv F (Sx.d_bin (v := .bool true) F rfl rfl rfl (Sx.b_eq (by simp))) (Sx.wanted_on rfl (Sx.guard_known (d := 96) (b := true) F rfl rfl) rfl) rfl (by decide) (fun A F => ?_)
        refine Sx.sv F (Sx.d_pickT (v := .bool true) F rfl rfl rfl) (Sx.wanted_none rfl _) rfl (by decide) (fun A F => ?_)
        refine Sx.sv F (Sx.d_move F (Or.inr rfl) rfl) (Sx.wanted_none rfl _) rfl (by decide) (fun A F => ?_)
        refine Sx.nil ?_
        refine hK18 _ _ ?_
        refine wp_ret ?_
        try dsimp only [Exit.then, Exit.inBlock, Exit.jump]
        refine Sx.ret1 F Try.results5 (Sx.res_tmp (v := .bool true) F rfl) ⟨?_, H.below⟩
        rfl
end Go.Proofs.Ytpbdffmgendboab
