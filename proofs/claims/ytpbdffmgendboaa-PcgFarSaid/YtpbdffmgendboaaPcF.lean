/- PcgFar walked. -/
import Derived.Test.YtpbdffmgendboaaP9
import Derived.Test.YtpbdffmgendboaaPcA
namespace Go.Proofs.Ytpbdffmgendboaa
open Go Go.RowKit
set_option maxRecDepth 100000 in
theorem pcgFar_ok (ss si n : BitVec 128) (ho : Af.odd si = true) (w0 : World) : Calls Try.prog 8 #[.agg #[.int .u64 ((Wd.hi ss).toNat), .int .u64 ((Wd.lo ss).toNat), .int .u64 ((Wd.hi si).toNat), .int .u64 ((Wd.lo si).toNat)], .agg #[.int .u64 ((Wd.hi n).toNat), .int .u64 ((Wd.lo n).toNat)]] w0 fun e w' => e = .returned (.bool true) ∧ Below w0.heap.size w0 w' := by
  refine Sx.enter (args := [.agg #[.int .u64 ((Wd.hi ss).toNat), .int .u64 ((Wd.lo ss).toNat), .int .u64 ((Wd.hi si).toNat), .int .u64 ((Wd.lo si).toNat)], .agg #[.int .u64 ((Wd.hi n).toNat), .int .u64 ((Wd.lo n).toNat)]]) Try.func8 rfl Try.ntmps8 (Nat.le_of_ble_eq_true rfl) (fun A F => ?_)
  have H := Sx.Own.start w0
  refine Sx.seq (fun K1 hK1 => ?_)
  refine Sx.plain ?_
  refine Sx.sb F (Sx.d_box F H rfl rfl [.int .u64 ((Wd.hi ss).toNat), .int .u64 ((Wd.lo ss).toNat), .int .u64 ((Wd.hi si).toNat), .int .u64 ((Wd.lo si).toNat)] rfl) (Sx.wanted_none rfl _) rfl (by decide) (fun g1 A w F H => ?_)
  refine Sx.sb F (Sx.d_box F H rfl rfl [.int .u64 ((Wd.hi n).toNat), .int .u64 ((Wd.lo n).toNat)] rfl) (Sx.wanted_none rfl _) rfl (by decide) (fun g2 A w F H => ?_)
  refine Sx.sv F (Sx.d_move F (Or.inr rfl) rfl) (Sx.wanted_none rfl _) rfl (by decide) (fun A F => ?_)
  refine Sx.nil ?_
  refine hK1 _ _ ?_
  refine Sx.seq (fun K2 hK2 => ?_)
  refine Sx.seq (fun K3 hK3 => ?_)
  refine Sx.plain ?_
  refine Sx.sw F (Sx.d_call (vs := []) (v := .bool true) if_32 F H rfl rfl (awake10_c _)) (Sx.wanted_none rfl _) rfl (by decide) (fun A w F H => ?_)
  refine Sx.sv F (Sx.d_un (v := .bool false) F rfl rfl rfl) (Sx.wanted_none rfl _) rfl (by decide) (fun A F => ?_)
  refine Sx.nil ?_
  refine hK3 _ _ ?_
  refine Sx.condF F rfl ?_
  refine wp_skip ?_
  refine hK2 _ _ ?_
  refine Sx.seq (fun K4 hK4 => ?_)
  refine Sx.plain ?_
  refine Sx.sv F (Sx.d_load (i := 1) (xs := [.int .u64 ((Wd.hi ss).toNat), .int .u64 ((Wd.lo ss).toNat), .int .u64 ((Wd.hi si).toNat), .int .u64 ((Wd.lo si).toNat)]) rw_57 F H rfl rfl rfl rfl rfl) (Sx.wanted_none rfl _) rfl (by decide) (fun A F => ?_)
  refine Sx.sv F (Sx.d_load (i := 0) (xs := [.int .u64 ((Wd.hi n).toNat), .int .u64 ((Wd.lo n).toNat)]) rw_24 F H rfl rfl rfl rfl rfl) (Sx.wanted_none rfl _) rfl (by decide) (fun A F => ?_)
  refine Sx.sw F (Sx.d_call (vs := [.agg #[.int .u64 ((Wd.hi ss).toNat), .int .u64 ((Wd.lo ss).toNat), .int .u64 ((Wd.hi si).toNat), .int .u64 ((Wd.lo si).toNat)], .agg #[.int .u64 ((Wd.hi n).toNat), .int .u64 ((Wd.lo n).toNat)]]) (v := .tuple #[.agg #[.int .u64 ((Wd.hi ((Pc.jump ⟨ss, si⟩ n).s)).toNat), .int .u64 ((Wd.lo ((Pc.jump ⟨ss, si⟩ n).s)).toNat), .int .u64 ((Wd.hi si).toNat), .int .u64 ((Wd.lo si).toNat)], .int .i64 0]) if_40 F H rfl rfl (pjump_ok ss si n (ho) _)) (Sx.wanted_none rfl _) rfl (by decide) (fun A w F H => ?_)
  refine Sx.sv F (Sx.d_move F (Or.inl rfl) rfl) (Sx.wanted_none rfl _) rfl (by decide) (fun A F => ?_)
  refine Sx.sv F (Sx.d_extract (v := .agg #[.int .u64 ((Wd.hi ((Pc.jump ⟨ss, si⟩ n).s)).toNat), .int .u64 ((Wd.lo ((Pc.jump ⟨ss, si⟩ n).s)).toNat), .int .u64 ((Wd.hi si).toNat), .int .u64 ((Wd.lo si).toNat)]) F rfl rfl rfl) (Sx.wanted_none rfl _) rfl (by decide) (fun A F => ?_)
  refine Sx.sv F (Sx.d_extract (v := .int .i64 0) F rfl rfl rfl) (Sx.wanted_none rfl _) rfl (by decide) (fun A F => ?_)
  refine Sx.sb F (Sx.d_alloc H rfl [.int .u64 ((Wd.hi 0#128).toNat), .int .u64 ((Wd.lo 0#128).toNat), .int .u64 ((Wd.hi 0#128).toNat), .int .u64 ((Wd.lo 0#128).toNat)] zero_57) (Sx.wanted_none rfl _) rfl (by decide) (fun g3 A w F H => ?_)
  refine Sx.ss F (Sx.d_store (i := 0) (xs := [.int .u64 ((Wd.hi ((Pc.jump ⟨ss, si⟩ n).s)).toNat), .int .u64 ((Wd.lo ((Pc.jump ⟨ss, si⟩ n).s)).toNat), .int .u64 ((Wd.hi si).toNat), .int .u64 ((Wd.lo si).toNat)]) (us := [.int .u64 ((Wd.hi ((Pc.jump ⟨ss, si⟩ n).s)).toNat), .int .u64 ((Wd.lo ((Pc.jump ⟨ss, si⟩ n).s)).toNat), .int .u64 ((Wd.hi si).toNat), .int .u64 ((Wd.lo si).toNat)]) sz_57 F H rfl rfl rfl rfl rfl rfl rfl (Nat.le_of_ble_eq_true rfl) rfl) (Sx.wanted_none rfl _) rfl (fun A w F (H : Sx.Own w0 _ [(true, g3, [.int .u64 ((Wd.hi ((Pc.jump ⟨ss, si⟩ n).s)).toNat), .int .u64 ((Wd.lo ((Pc.jump ⟨ss, si⟩ n).s)).toNat), .int .u64 ((Wd.hi si).toNat), .int .u64 ((Wd.lo si).toNat)]), (true, g2, [.int .u64 ((Wd.hi n).toNat), .int .u64 ((Wd.lo n).toNat)]), (true, g1, [.int .u64 ((Wd.hi ss).toNat), .int .u64 ((Wd.lo ss).toNat), .int .u64 ((Wd.hi si).toNat), .int .u64 ((Wd.lo si).toNat)])] []) => ?_)
  refine Sx.sv F (Sx.d_move F (Or.inr rfl) rfl) (Sx.wanted_none rfl _) rfl (by decide) (fun A F => ?_)
  refine Sx.nil ?_
  refine hK4 _ _ ?_
  refine Sx.seq (fun K5 hK5 => ?_)
  refine Sx.seq (fun K6 hK6 => ?_)
  refine Sx.plain ?_
  refine Sx.sv F (Sx.d_load (i := 2) (xs := [.int .u64 ((Wd.hi ss).toNat), .int .u64 ((Wd.lo ss).toNat), .int .u64 ((Wd.hi si).toNat), .int .u64 ((Wd.lo si).toNat)]) rw_57 F H rfl rfl rfl rfl rfl) (Sx.wanted_none rfl _) rfl (by decide) (fun A F => ?_)
  refine Sx.sw F (Sx.d_call (vs := [.agg #[.int .u64 ((Wd.hi ss).toNat), .int .u64 ((Wd.lo ss).toNat), .int .u64 ((Wd.hi si).toNat), .int .u64 ((Wd.lo si).toNat)]]) (v := .bool true) if_38 F H rfl rfl (Calls.val (pright_c ss si _) rfl (congrArg Value.bool (ho)))) (Sx.wanted_none rfl _) rfl (by decide) (fun A w F H => ?_)
  refine Sx.sv F (Sx.d_un (v := .bool false) F rfl rfl rfl) (Sx.wanted_none rfl _) rfl (by decide) (fun A F => ?_)
  refine Sx.nil ?_
  refine hK6 _ _ ?_
  refine Sx.condF F rfl ?_
  refine wp_skip ?_
  refine hK5 _ _ ?_
  refine Sx.seq (fun K7 hK7 => ?_)
  refine Sx.plain ?_
  refine Sx.sv F (Sx.d_build (qs := #[(1, .int .u64 15750249268501108917)]) (v := .agg #[.int .u64 ((Wd.hi 15750249268501108917#128).toNat), .int .u64 ((Wd.lo 15750249268501108917#128).toNat)]) F rfl rfl (by kernel_rfl)) (Sx.wanted_none rfl _) rfl (by decide) (fun A F => ?_)
  refine Sx.sv F (Sx.d_faddr (v := .pointer (some ⟨g1, 2, none⟩)) F rfl rfl (fa_57_1 _ 0 _)) (Sx.wanted_none rfl _) rfl (by decide) (fun A F => ?_)
  refine Sx.sv F (Sx.d_load (i := 2) (xs := [.int .u64 ((Wd.hi si).toNat), .int .u64 ((Wd.lo si).toNat)]) rw_24 F H rfl rfl rfl rfl rfl) (Sx.wanted_none rfl _) rfl (by decide) (fun A F => ?_)
  refine Sx.sv F (Sx.d_build (qs := #[(0, .agg #[.int .u64 ((Wd.hi 15750249268501108917#128).toNat), .int .u64 ((Wd.lo 15750249268501108917#128).toNat)]), (1, .agg #[.int .u64 ((Wd.hi si).toNat), .int .u64 ((Wd.lo si).toNat)])]) (v := .agg #[.int .u64 ((Wd.hi 15750249268501108917#128).toNat), .int .u64 ((Wd.lo 15750249268501108917#128).toNat), .int .u64 ((Wd.hi si).toNat), .int .u64 ((Wd.lo si).toNat)]) F rfl rfl (by kernel_rfl)) (Sx.wanted_none rfl _) rfl (by decide) (fun A F => ?_)
  refine Sx.sb F (Sx.d_alloc H rfl [.int .u64 ((Wd.hi 0#128).toNat), .int .u64 ((Wd.lo 0#128).toNat), .int .u64 ((Wd.hi 0#128).toNat), .int .u64 ((Wd.lo 0#128).toNat)] zero_37) (Sx.wanted_none rfl _) rfl (by decide) (fun g4 A w F H => ?_)
  refine Sx.ss F (Sx.d_store (i := 0) (xs := [.int .u64 ((Wd.hi 15750249268501108917#128).toNat), .int .u64 ((Wd.lo 15750249268501108917#128).toNat), .int .u64 ((Wd.hi si).toNat), .int .u64 ((Wd.lo si).toNat)]) (us := [.int .u64 ((Wd.hi 15750249268501108917#128).toNat), .int .u64 ((Wd.lo 15750249268501108917#128).toNat), .int .u64 ((Wd.hi si).toNat), .int .u64 ((Wd.lo si).toNat)]) sz_37 F H rfl rfl rfl rfl rfl rfl rfl (Nat.le_of_ble_eq_true rfl) rfl) (Sx.wanted_none rfl _) rfl (fun A w F (H : Sx.Own w0 _ [(true, g4, [.int .u64 ((Wd.hi 15750249268501108917#128).toNat), .int .u64 ((Wd.lo 15750249268501108917#128).toNat), .int .u64 ((Wd.hi si).toNat), .int .u64 ((Wd.lo si).toNat)]), (true, g3, [.int .u64 ((Wd.hi ((Pc.jump ⟨ss, si⟩ n).s)).toNat), .int .u64 ((Wd.lo ((Pc.jump ⟨ss, si⟩ n).s)).toNat), .int .u64 ((Wd.hi si).toNat), .int .u64 ((Wd.lo si).toNat)]), (true, g2, [.int .u64 ((Wd.hi n).toNat), .int .u64 ((Wd.lo n).toNat)]), (true, g1, [.int .u64 ((Wd.hi ss).toNat), .int .u64 ((Wd.lo ss).toNat), .int .u64 ((Wd.hi si).toNat), .int .u64 ((Wd.lo si).toNat)])] []) => ?_)
  refine Sx.nil ?_
  refine hK7 _ _ ?_
  refine Sx.seq (fun K8 hK8 => ?_)
  have F := Sx.Fr.to F (kv' := [(0, .agg #[.int .u64 ((Wd.hi ss).toNat), .int .u64 ((Wd.lo ss).toNat), .int .u64 ((Wd.hi si).toNat), .int .u64 ((Wd.lo si).toNat)]), (1, .agg #[.int .u64 ((Wd.hi n).toNat), .int .u64 ((Wd.lo n).toNat)]), (2, .pointer (some ⟨g1, 0, none⟩)), (3, .pointer (some ⟨g2, 0, none⟩)), (8, .bool true), (9, .bool false), (11, .agg #[.int .u64 ((Wd.hi ss).toNat), .int .u64 ((Wd.lo ss).toNat), .int .u64 ((Wd.hi si).toNat), .int .u64 ((Wd.lo si).toNat)]), (12, .agg #[.int .u64 ((Wd.hi n).toNat), .int .u64 ((Wd.lo n).toNat)]), (13, .tuple #[.agg #[.int .u64 ((Wd.hi ((Pc.jump ⟨ss, si⟩ n).s)).toNat), .int .u64 ((Wd.lo ((Pc.jump ⟨ss, si⟩ n).s)).toNat), .int .u64 ((Wd.hi si).toNat), .int .u64 ((Wd.lo si).toNat)], .int .i64 0]), (10, .tuple #[.agg #[.int .u64 ((Wd.hi ((Pc.jump ⟨ss, si⟩ n).s)).toNat), .int .u64 ((Wd.lo ((Pc.jump ⟨ss, si⟩ n).s)).toNat), .int .u64 ((Wd.hi si).toNat), .int .u64 ((Wd.lo si).toNat)], .int .i64 0]), (14, .agg #[.int .u64 ((Wd.hi ((Pc.jump ⟨ss, si⟩ n).s)).toNat), .int .u64 ((Wd.lo ((Pc.jump ⟨ss, si⟩ n).s)).toNat), .int .u64 ((Wd.hi si).toNat), .int .u64 ((Wd.lo si).toNat)]), (15, .int .i64 0), (5, .pointer (some ⟨g3, 0, none⟩)), (6, .int .i64 0), (16, .agg #[.int .u64 ((Wd.hi ss).toNat), .int .u64 ((Wd.lo ss).toNat), .int .u64 ((Wd.hi si).toNat), .int .u64 ((Wd.lo si).toNat)]), (17, .bool true), (18, .bool false), (26, .agg #[.int .u64 ((Wd.hi 15750249268501108917#128).toNat), .int .u64 ((Wd.lo 15750249268501108917#128).toNat)]), (27, .pointer (some ⟨g1, 2, none⟩)), (28, .agg #[.int .u64 ((Wd.hi si).toNat), .int .u64 ((Wd.lo si).toNat)]), (29, .agg #[.int .u64 ((Wd.hi 15750249268501108917#128).toNat), .int .u64 ((Wd.lo 15750249268501108917#128).toNat), .int .u64 ((Wd.hi si).toNat), .int .u64 ((Wd.lo si).toNat)]), (7, .pointer (some ⟨g4, 0, none⟩))]) ⟨rfl, rfl, rfl, rfl, rfl, rfl, rfl, rfl, rfl, rfl, rfl, rfl, rfl, rfl, rfl, rfl, rfl, rfl, rfl, rfl, rfl, rfl, trivial⟩
  refine Sx.drawn F (by kernel_rfl) (by kernel_rfl) (by kernel_rfl) [some (.int .i64 0), some (.bool true), some (.bool true), some (.pointer (some ⟨g3, 0, none⟩)), some (.agg #[.int .u64 ((Wd.hi ((Pc.jump ⟨ss, si⟩ n).s)).toNat), .int .u64 ((Wd.lo ((Pc.jump ⟨ss, si⟩ n).s)).toNat)]), some (.agg #[.int .u64 ((Wd.hi 15750249268501108917#128).toNat), .int .u64 ((Wd.lo 15750249268501108917#128).toNat), .int .u64 ((Wd.hi si).toNat), .int .u64 ((Wd.lo si).toNat)]), some (.agg #[.int .u64 ((Wd.hi n).toNat), .int .u64 ((Wd.lo n).toNat)]), some (.agg #[.int .u64 ((Wd.hi ((Af.pow ⟨15750249268501108917#128, si⟩ (n).toNat).a)).toNat), .int .u64 ((Wd.lo ((Af.pow ⟨15750249268501108917#128, si⟩ (n).toNat).a)).toNat), .int .u64 ((Wd.hi ((Af.pow ⟨15750249268501108917#128, si⟩ (n).toNat).c)).toNat), .int .u64 ((Wd.lo ((Af.pow ⟨15750249268501108917#128, si⟩ (n).toNat).c)).toNat)]), some (.pointer (some ⟨g1, 0, none⟩)), some (.agg #[.int .u64 ((Wd.hi ss).toNat), .int .u64 ((Wd.lo ss).toNat)]), some (.agg #[.int .u64 ((Wd.hi (((Af.pow ⟨15750249268501108917#128, si⟩ (n).toNat).a) * ss + ((Af.pow ⟨15750249268501108917#128, si⟩ (n).toNat).c))).toNat), .int .u64 ((Wd.lo (((Af.pow ⟨15750249268501108917#128, si⟩ (n).toNat).a) * ss + ((Af.pow ⟨15750249268501108917#128, si⟩ (n).toNat).c))).toNat)]), some (.bool true), some (.bool true), some (.bool true), some (.pointer (some ⟨g3, 2, none⟩)), some (.agg #[.int .u64 ((Wd.hi si).toNat), .int .u64 ((Wd.lo si).toNat)]), some (.pointer (some ⟨g1, 2, none⟩)), some (.agg #[.int .u64 ((Wd.hi si).toNat), .int .u64 ((Wd.lo si).toNat)]), some (.bool true), some (.bool true), some (.bool true)] (fun L A w => Sx.Own w0 w [(true, g4, [.int .u64 ((Wd.hi 15750249268501108917#128).toNat), .int .u64 ((Wd.lo 15750249268501108917#128).toNat), .int .u64 ((Wd.hi si).toNat), .int .u64 ((Wd.lo si).toNat)]), (true, g3, [.int .u64 ((Wd.hi ((Pc.jump ⟨ss, si⟩ n).s)).toNat), .int .u64 ((Wd.lo ((Pc.jump ⟨ss, si⟩ n).s)).toNat), .int .u64 ((Wd.hi si).toNat), .int .u64 ((Wd.lo si).toNat)]), (true, g2, [.int .u64 ((Wd.hi n).toNat), .int .u64 ((Wd.lo n).toNat)]), (true, g1, [.int .u64 ((Wd.hi ss).toNat), .int .u64 ((Wd.lo ss).toNat), .int .u64 ((Wd.hi si).toNat), .int .u64 ((Wd.lo si).toNat)])] []) H.drew ?_ ?_
  · refine ⟨?_, ?_, ?_, ?_, ?_, ?_, ?_, ?_, ?_, ?_, ?_, ?_, ?_, ?_, ?_, ?_, ?_, ?_, ?_, ?_, ?_, trivial⟩
    · show Sx.StepAt _ _ _ _ _ _ _ 0
      intro L A w up hun hd F H
      have F := Sx.Fr.to F (kv' := [(6, .int .i64 0)]) ⟨rfl, trivial⟩
      refine Sx.step_on rfl (Sx.d_move F (Or.inl rfl) rfl) ?_
      rintro xv w' ⟨hx, rfl⟩
      exact ⟨(fun cv hc => hx.trans (Option.some.inj (Option.some.inj hc))), H⟩
    · show Sx.StepAt _ _ _ _ _ _ _ 1
      intro L A w up hun hd F H
      have F := Sx.Fr.to F (kv' := [(30, .int .i64 0)]) ⟨rfl, trivial⟩
      refine Sx.step_on rfl (Sx.d_bin (v := .bool true) F rfl rfl rfl (Sx.i_eq (by decide))) ?_
      rintro xv w' ⟨hx, rfl⟩
      exact ⟨(fun cv hc => hx.trans (Option.some.inj (Option.some.inj hc))), H⟩
    · show Sx.StepAt _ _ _ _ _ _ _ 2
      intro L A w up hun hd F H
      have F := Sx.Fr.to F (kv' := [(31, .bool true)]) ⟨rfl, trivial⟩
      refine Sx.step_on rfl (Sx.d_move F (Or.inl rfl) rfl) ?_
      rintro xv w' ⟨hx, rfl⟩
      exact ⟨(fun cv hc => hx.trans (Option.some.inj (Option.some.inj hc))), H⟩
    · show Sx.StepAt _ _ _ _ _ _ _ 3
      intro L A w up hun hd F H
      have F := Sx.Fr.to F (kv' := [(5, .pointer (some ⟨g3, 0, none⟩)), (32, .bool true)]) ⟨rfl, rfl, trivial⟩
      refine Sx.step_ong rfl (Sx.guard_known (d := 32) (b := true) F rfl rfl) rfl (Sx.d_faddr (v := .pointer (some ⟨g3, 0, none⟩)) F rfl rfl (fa_57_0 _ 0 _)) ?_
      rintro xv w' ⟨hx, rfl⟩
      exact ⟨(fun cv hc => hx.trans (Option.some.inj (Option.some.inj hc))), H⟩
    · show Sx.StepAt _ _ _ _ _ _ _ 4
      intro L A w up hun hd F H
      have F := Sx.Fr.to F (kv' := [(33, .pointer (some ⟨g3, 0, none⟩)), (32, .bool true)]) ⟨rfl, rfl, trivial⟩
      refine Sx.step_ong rfl (Sx.guard_known (d := 32) (b := true) F rfl rfl) rfl (Sx.d_load (i := 1) (xs := [.int .u64 ((Wd.hi ((Pc.jump ⟨ss, si⟩ n).s)).toNat), .int .u64 ((Wd.lo ((Pc.jump ⟨ss, si⟩ n).s)).toNat)]) rw_24 F H rfl rfl rfl rfl rfl) ?_
      rintro xv w' ⟨hx, rfl⟩
      exact ⟨(fun cv hc => hx.trans (Option.some.inj (Option.some.inj hc))), H⟩
    · show Sx.StepAt _ _ _ _ _ _ _ 5
      intro L A w up hun hd F H
      have F := Sx.Fr.to F (kv' := [(7, .pointer (some ⟨g4, 0, none⟩)), (32, .bool true)]) ⟨rfl, rfl, trivial⟩
      refine Sx.step_ong rfl (Sx.guard_known (d := 32) (b := true) F rfl rfl) rfl (Sx.d_load (i := 0) (xs := [.int .u64 ((Wd.hi 15750249268501108917#128).toNat), .int .u64 ((Wd.lo 15750249268501108917#128).toNat), .int .u64 ((Wd.hi si).toNat), .int .u64 ((Wd.lo si).toNat)]) rw_37 F H rfl rfl rfl rfl rfl) ?_
      rintro xv w' ⟨hx, rfl⟩
      exact ⟨(fun cv hc => hx.trans (Option.some.inj (Option.some.inj hc))), H⟩
    · show Sx.StepAt _ _ _ _ _ _ _ 6
      intro L A w up hun hd F H
      have F := Sx.Fr.to F (kv' := [(3, .pointer (some ⟨g2, 0, none⟩)), (32, .bool true)]) ⟨rfl, rfl, trivial⟩
      refine Sx.step_ong rfl (Sx.guard_known (d := 32) (b := true) F rfl rfl) rfl (Sx.d_load (i := 2) (xs := [.int .u64 ((Wd.hi n).toNat), .int .u64 ((Wd.lo n).toNat)]) rw_24 F H rfl rfl rfl rfl rfl) ?_
      rintro xv w' ⟨hx, rfl⟩
      exact ⟨(fun cv hc => hx.trans (Option.some.inj (Option.some.inj hc))), H⟩
    · show Sx.StepAt _ _ _ _ _ _ _ 7
      intro L A w up hun hd F H
      have F := Sx.Fr.to F (kv' := [(35, .agg #[.int .u64 ((Wd.hi 15750249268501108917#128).toNat), .int .u64 ((Wd.lo 15750249268501108917#128).toNat), .int .u64 ((Wd.hi si).toNat), .int .u64 ((Wd.lo si).toNat)]), (36, .agg #[.int .u64 ((Wd.hi n).toNat), .int .u64 ((Wd.lo n).toNat)]), (32, .bool true)]) ⟨rfl, rfl, rfl, trivial⟩
      refine Sx.step_ong rfl (Sx.guard_known (d := 32) (b := true) F rfl rfl) rfl (Sx.d_call (vs := [.agg #[.int .u64 ((Wd.hi 15750249268501108917#128).toNat), .int .u64 ((Wd.lo 15750249268501108917#128).toNat), .int .u64 ((Wd.hi si).toNat), .int .u64 ((Wd.lo si).toNat)], .agg #[.int .u64 ((Wd.hi n).toNat), .int .u64 ((Wd.lo n).toNat)]]) (v := .agg #[.int .u64 ((Wd.hi ((Af.pow ⟨15750249268501108917#128, si⟩ (n).toNat).a)).toNat), .int .u64 ((Wd.lo ((Af.pow ⟨15750249268501108917#128, si⟩ (n).toNat).a)).toNat), .int .u64 ((Wd.hi ((Af.pow ⟨15750249268501108917#128, si⟩ (n).toNat).c)).toNat), .int .u64 ((Wd.lo ((Af.pow ⟨15750249268501108917#128, si⟩ (n).toNat).c)).toNat)]) if_25 F H rfl rfl (rpow9_c 15750249268501108917#128 si n _)) ?_
      rintro xv w' ⟨hx, H⟩
      exact ⟨(fun cv hc => hx.trans (Option.some.inj (Option.some.inj hc))), H⟩
    · show Sx.StepAt _ _ _ _ _ _ _ 8
      intro L A w up hun hd F H
      have F := Sx.Fr.to F (kv' := [(2, .pointer (some ⟨g1, 0, none⟩)), (32, .bool true)]) ⟨rfl, rfl, trivial⟩
      refine Sx.step_ong rfl (Sx.guard_known (d := 32) (b := true) F rfl rfl) rfl (Sx.d_faddr (v := .pointer (some ⟨g1, 0, none⟩)) F rfl rfl (fa_57_0 _ 0 _)) ?_
      rintro xv w' ⟨hx, rfl⟩
      exact ⟨(fun cv hc => hx.trans (Option.some.inj (Option.some.inj hc))), H⟩
    · show Sx.StepAt _ _ _ _ _ _ _ 9
      intro L A w up hun hd F H
      have F := Sx.Fr.to F (kv' := [(38, .pointer (some ⟨g1, 0, none⟩)), (32, .bool true)]) ⟨rfl, rfl, trivial⟩
      refine Sx.step_ong rfl (Sx.guard_known (d := 32) (b := true) F rfl rfl) rfl (Sx.d_load (i := 3) (xs := [.int .u64 ((Wd.hi ss).toNat), .int .u64 ((Wd.lo ss).toNat)]) rw_24 F H rfl rfl rfl rfl rfl) ?_
      rintro xv w' ⟨hx, rfl⟩
      exact ⟨(fun cv hc => hx.trans (Option.some.inj (Option.some.inj hc))), H⟩
    · show Sx.StepAt _ _ _ _ _ _ _ 10
      intro L A w up hun hd F H
      have F := Sx.Fr.to F (kv' := [(37, .agg #[.int .u64 ((Wd.hi ((Af.pow ⟨15750249268501108917#128, si⟩ (n).toNat).a)).toNat), .int .u64 ((Wd.lo ((Af.pow ⟨15750249268501108917#128, si⟩ (n).toNat).a)).toNat), .int .u64 ((Wd.hi ((Af.pow ⟨15750249268501108917#128, si⟩ (n).toNat).c)).toNat), .int .u64 ((Wd.lo ((Af.pow ⟨15750249268501108917#128, si⟩ (n).toNat).c)).toNat)]), (39, .agg #[.int .u64 ((Wd.hi ss).toNat), .int .u64 ((Wd.lo ss).toNat)]), (32, .bool true)]) ⟨rfl, rfl, rfl, trivial⟩
      refine Sx.step_ong rfl (Sx.guard_known (d := 32) (b := true) F rfl rfl) rfl (Sx.d_call (vs := [.agg #[.int .u64 ((Wd.hi ((Af.pow ⟨15750249268501108917#128, si⟩ (n).toNat).a)).toNat), .int .u64 ((Wd.lo ((Af.pow ⟨15750249268501108917#128, si⟩ (n).toNat).a)).toNat), .int .u64 ((Wd.hi ((Af.pow ⟨15750249268501108917#128, si⟩ (n).toNat).c)).toNat), .int .u64 ((Wd.lo ((Af.pow ⟨15750249268501108917#128, si⟩ (n).toNat).c)).toNat)], .agg #[.int .u64 ((Wd.hi ss).toNat), .int .u64 ((Wd.lo ss).toNat)]]) (v := .agg #[.int .u64 ((Wd.hi (((Af.pow ⟨15750249268501108917#128, si⟩ (n).toNat).a) * ss + ((Af.pow ⟨15750249268501108917#128, si⟩ (n).toNat).c))).toNat), .int .u64 ((Wd.lo (((Af.pow ⟨15750249268501108917#128, si⟩ (n).toNat).a) * ss + ((Af.pow ⟨15750249268501108917#128, si⟩ (n).toNat).c))).toNat)]) if_22 F H rfl rfl (rat9_c ((Af.pow ⟨15750249268501108917#128, si⟩ (n).toNat).a) ((Af.pow ⟨15750249268501108917#128, si⟩ (n).toNat).c) ss _)) ?_
      rintro xv w' ⟨hx, H⟩
      exact ⟨(fun cv hc => hx.trans (Option.some.inj (Option.some.inj hc))), H⟩
    · show Sx.StepAt _ _ _ _ _ _ _ 11
      intro L A w up hun hd F H
      have F := Sx.Fr.to F (kv' := [(34, .agg #[.int .u64 ((Wd.hi ((Pc.jump ⟨ss, si⟩ n).s)).toNat), .int .u64 ((Wd.lo ((Pc.jump ⟨ss, si⟩ n).s)).toNat)]), (40, .agg #[.int .u64 ((Wd.hi (((Af.pow ⟨15750249268501108917#128, si⟩ (n).toNat).a) * ss + ((Af.pow ⟨15750249268501108917#128, si⟩ (n).toNat).c))).toNat), .int .u64 ((Wd.lo (((Af.pow ⟨15750249268501108917#128, si⟩ (n).toNat).a) * ss + ((Af.pow ⟨15750249268501108917#128, si⟩ (n).toNat).c))).toNat)]), (32, .bool true)]) ⟨rfl, rfl, rfl, trivial⟩
      refine Sx.step_ong rfl (Sx.guard_known (d := 32) (b := true) F rfl rfl) rfl (Sx.d_bin (v := .bool true) F rfl rfl rfl (Sx.i_eqU (decide_eq_true rfl))) ?_
      rintro xv w' ⟨hx, rfl⟩
      exact ⟨(fun cv hc => hx.trans (Option.some.inj (Option.some.inj hc))), H⟩
    · show Sx.StepAt _ _ _ _ _ _ _ 12
      intro L A w up hun hd F H
      have F := Sx.Fr.to F (kv' := [(32, .bool true), (41, .bool true)]) ⟨rfl, rfl, trivial⟩
      refine Sx.step_on rfl (Sx.d_pickT (v := .bool true) F rfl rfl rfl) ?_
      rintro xv w' ⟨hx, rfl⟩
      exact ⟨(fun cv hc => hx.trans (Option.some.inj (Option.some.inj hc))), H⟩
    · show Sx.StepAt _ _ _ _ _ _ _ 13
      intro L A w up hun hd F H
      have F := Sx.Fr.to F (kv' := [(42, .bool true)]) ⟨rfl, trivial⟩
      refine Sx.step_on rfl (Sx.d_move F (Or.inl rfl) rfl) ?_
      rintro xv w' ⟨hx, rfl⟩
      exact ⟨(fun cv hc => hx.trans (Option.some.inj (Option.some.inj hc))), H⟩
    · show Sx.StepAt _ _ _ _ _ _ _ 14
      intro L A w up hun hd F H
      have F := Sx.Fr.to F (kv' := [(5, .pointer (some ⟨g3, 0, none⟩)), (43, .bool true)]) ⟨rfl, rfl, trivial⟩
      refine Sx.step_ong rfl (Sx.guard_known (d := 43) (b := true) F rfl rfl) rfl (Sx.d_faddr (v := .pointer (some ⟨g3, 2, none⟩)) F rfl rfl (fa_57_1 _ 0 _)) ?_
      rintro xv w' ⟨hx, rfl⟩
      exact ⟨(fun cv hc => hx.trans (Option.some.inj (Option.some.inj hc))), H⟩
    · show Sx.StepAt _ _ _ _ _ _ _ 15
      intro L A w up hun hd F H
      have F := Sx.Fr.to F (kv' := [(44, .pointer (some ⟨g3, 2, none⟩)), (43, .bool true)]) ⟨rfl, rfl, trivial⟩
      refine Sx.step_ong rfl (Sx.guard_known (d := 43) (b := true) F rfl rfl) rfl (Sx.d_load (i := 1) (xs := [.int .u64 ((Wd.hi si).toNat), .int .u64 ((Wd.lo si).toNat)]) rw_24 F H rfl rfl rfl rfl rfl) ?_
      rintro xv w' ⟨hx, rfl⟩
      exact ⟨(fun cv hc => hx.trans (Option.some.inj (Option.some.inj hc))), H⟩
    · show Sx.StepAt _ _ _ _ _ _ _ 16
      intro L A w up hun hd F H
      have F := Sx.Fr.to F (kv' := [(2, .pointer (some ⟨g1, 0, none⟩)), (43, .bool true)]) ⟨rfl, rfl, trivial⟩
      refine Sx.step_ong rfl (Sx.guard_known (d := 43) (b := true) F rfl rfl) rfl (Sx.d_faddr (v := .pointer (some ⟨g1, 2, none⟩)) F rfl rfl (fa_57_1 _ 0 _)) ?_
      rintro xv w' ⟨hx, rfl⟩
      exact ⟨(fun cv hc => hx.trans (Option.some.inj (Option.some.inj hc))), H⟩
    · show Sx.StepAt _ _ _ _ _ _ _ 17
      intro L A w up hun hd F H
      have F := Sx.Fr.to F (kv' := [(46, .pointer (some ⟨g1, 2, none⟩)), (43, .bool true)]) ⟨rfl, rfl, trivial⟩
      refine Sx.step_ong rfl (Sx.guard_known (d := 43) (b := true) F rfl rfl) rfl (Sx.d_load (i := 3) (xs := [.int .u64 ((Wd.hi si).toNat), .int .u64 ((Wd.lo si).toNat)]) rw_24 F H rfl rfl rfl rfl rfl) ?_
      rintro xv w' ⟨hx, rfl⟩
      exact ⟨(fun cv hc => hx.trans (Option.some.inj (Option.some.inj hc))), H⟩
    · show Sx.StepAt _ _ _ _ _ _ _ 18
      intro L A w up hun hd F H
      have F := Sx.Fr.to F (kv' := [(45, .agg #[.int .u64 ((Wd.hi si).toNat), .int .u64 ((Wd.lo si).toNat)]), (47, .agg #[.int .u64 ((Wd.hi si).toNat), .int .u64 ((Wd.lo si).toNat)]), (43, .bool true)]) ⟨rfl, rfl, rfl, trivial⟩
      refine Sx.step_ong rfl (Sx.guard_known (d := 43) (b := true) F rfl rfl) rfl (Sx.d_bin (v := .bool true) F rfl rfl rfl (Sx.i_eqV (eqb_self _))) ?_
      rintro xv w' ⟨hx, rfl⟩
      exact ⟨(fun cv hc => hx.trans (Option.some.inj (Option.some.inj hc))), H⟩
    · show Sx.StepAt _ _ _ _ _ _ _ 19
      intro L A w up hun hd F H
      have F := Sx.Fr.to F (kv' := [(43, .bool true), (48, .bool true)]) ⟨rfl, rfl, trivial⟩
      refine Sx.step_on rfl (Sx.d_pickT (v := .bool true) F rfl rfl rfl) ?_
      rintro xv w' ⟨hx, rfl⟩
      exact ⟨(fun cv hc => hx.trans (Option.some.inj (Option.some.inj hc))), H⟩
    · show Sx.StepAt _ _ _ _ _ _ _ 20
      intro L A w up hun hd F H
      have F := Sx.Fr.to F (kv' := [(49, .bool true)]) ⟨rfl, trivial⟩
      refine Sx.step_on rfl (Sx.d_move F (Or.inr rfl) rfl) ?_
      rintro xv w' ⟨hx, rfl⟩
      exact ⟨(fun cv hc => hx.trans (Option.some.inj (Option.some.inj hc))), H⟩
  · intro L A w hL F H
    have F := Sx.Fr.to F (kv' := [(0, .agg #[.int .u64 ((Wd.hi ss).toNat), .int .u64 ((Wd.lo ss).toNat), .int .u64 ((Wd.hi si).toNat), .int .u64 ((Wd.lo si).toNat)]), (1, .agg #[.int .u64 ((Wd.hi n).toNat), .int .u64 ((Wd.lo n).toNat)]), (2, .pointer (some ⟨g1, 0, none⟩)), (3, .pointer (some ⟨g2, 0, none⟩)), (8, .bool true), (9, .bool false), (11, .agg #[.int .u64 ((Wd.hi ss).toNat), .int .u64 ((Wd.lo ss).toNat), .int .u64 ((Wd.hi si).toNat), .int .u64 ((Wd.lo si).toNat)]), (12, .agg #[.int .u64 ((Wd.hi n).toNat), .int .u64 ((Wd.lo n).toNat)]), (13, .tuple #[.agg #[.int .u64 ((Wd.hi ((Pc.jump ⟨ss, si⟩ n).s)).toNat), .int .u64 ((Wd.lo ((Pc.jump ⟨ss, si⟩ n).s)).toNat), .int .u64 ((Wd.hi si).toNat), .int .u64 ((Wd.lo si).toNat)], .int .i64 0]), (10, .tuple #[.agg #[.int .u64 ((Wd.hi ((Pc.jump ⟨ss, si⟩ n).s)).toNat), .int .u64 ((Wd.lo ((Pc.jump ⟨ss, si⟩ n).s)).toNat), .int .u64 ((Wd.hi si).toNat), .int .u64 ((Wd.lo si).toNat)], .int .i64 0]), (14, .agg #[.int .u64 ((Wd.hi ((Pc.jump ⟨ss, si⟩ n).s)).toNat), .int .u64 ((Wd.lo ((Pc.jump ⟨ss, si⟩ n).s)).toNat), .int .u64 ((Wd.hi si).toNat), .int .u64 ((Wd.lo si).toNat)]), (15, .int .i64 0), (5, .pointer (some ⟨g3, 0, none⟩)), (6, .int .i64 0), (16, .agg #[.int .u64 ((Wd.hi ss).toNat), .int .u64 ((Wd.lo ss).toNat), .int .u64 ((Wd.hi si).toNat), .int .u64 ((Wd.lo si).toNat)]), (17, .bool true), (18, .bool false), (26, .agg #[.int .u64 ((Wd.hi 15750249268501108917#128).toNat), .int .u64 ((Wd.lo 15750249268501108917#128).toNat)]), (27, .pointer (some ⟨g1, 2, none⟩)), (28, .agg #[.int .u64 ((Wd.hi si).toNat), .int .u64 ((Wd.lo si).toNat)]), (29, .agg #[.int .u64 ((Wd.hi 15750249268501108917#128).toNat), .int .u64 ((Wd.lo 15750249268501108917#128).toNat), .int .u64 ((Wd.hi si).toNat), .int .u64 ((Wd.lo si).toNat)]), (7, .pointer (some ⟨g4, 0, none⟩)), (4, .bool true)]) ⟨rfl, rfl, rfl, rfl, rfl, rfl, rfl, rfl, rfl, rfl, rfl, rfl, rfl, rfl, rfl, rfl, rfl, rfl, rfl, rfl, rfl, rfl, rfl, trivial⟩
    refine hK8 _ _ ?_
    refine wp_ret ?_
    try dsimp only [Exit.then, Exit.inBlock, Exit.jump]
    refine Sx.ret1 F Try.results8 (Sx.res_tmp (v := .bool true) F rfl) ⟨?_, H.below⟩
    rfl
set_option maxRecDepth 100000 in
theorem pcgFar_no (ss si n : BitVec 128) (ho : Af.odd si = false) (w0 : World) : Calls Try.prog 8 #[.agg #[.int .u64 ((Wd.hi ss).toNat), .int .u64 ((Wd.lo ss).toNat), .int .u64 ((Wd.hi si).toNat), .int .u64 ((Wd.lo si).toNat)], .agg #[.int .u64 ((Wd.hi n).toNat), .int .u64 ((Wd.lo n).toNat)]] w0 fun e w' => e = .returned (.bool true) ∧ Below w0.heap.size w0 w' := by
  refine Sx.enter (args := [.agg #[.int .u64 ((Wd.hi ss).toNat), .int .u64 ((Wd.lo ss).toNat), .int .u64 ((Wd.hi si).toNat), .int .u64 ((Wd.lo si).toNat)], .agg #[.int .u64 ((Wd.hi n).toNat), .int .u64 ((Wd.lo n).toNat)]]) Try.func8 rfl Try.ntmps8 (Nat.le_of_ble_eq_true rfl) (fun A F => ?_)
  have H := Sx.Own.start w0
  refine Sx.seq (fun K1 hK1 => ?_)
  refine Sx.plain ?_
  refine Sx.sb F (Sx.d_box F H rfl rfl [.int .u64 ((Wd.hi ss).toNat), .int .u64 ((Wd.lo ss).toNat), .int .u64 ((Wd.hi si).toNat), .int .u64 ((Wd.lo si).toNat)] rfl) (Sx.wanted_none rfl _) rfl (by decide) (fun g1 A w F H => ?_)
  refine Sx.sb F (Sx.d_box F H rfl rfl [.int .u64 ((Wd.hi n).toNat), .int .u64 ((Wd.lo n).toNat)] rfl) (Sx.wanted_none rfl _) rfl (by decide) (fun g2 A w F H => ?_)
  refine Sx.sv F (Sx.d_move F (Or.inr rfl) rfl) (Sx.wanted_none rfl _) rfl (by decide) (fun A F => ?_)
  refine Sx.nil ?_
  refine hK1 _ _ ?_
  refine Sx.seq (fun K2 hK2 => ?_)
  refine Sx.seq (fun K3 hK3 => ?_)
  refine Sx.plain ?_
  refine Sx.sw F (Sx.d_call (vs := []) (v := .bool true) if_32 F H rfl rfl (awake10_c _)) (Sx.wanted_none rfl _) rfl (by decide) (fun A w F H => ?_)
  refine Sx.sv F (Sx.d_un (v := .bool false) F rfl rfl rfl) (Sx.wanted_none rfl _) rfl (by decide) (fun A F => ?_)
  refine Sx.nil ?_
  refine hK3 _ _ ?_
  refine Sx.condF F rfl ?_
  refine wp_skip ?_
  refine hK2 _ _ ?_
  refine Sx.seq (fun K4 hK4 => ?_)
  refine Sx.plain ?_
  refine Sx.sv F (Sx.d_load (i := 1) (xs := [.int .u64 ((Wd.hi ss).toNat), .int .u64 ((Wd.lo ss).toNat), .int .u64 ((Wd.hi si).toNat), .int .u64 ((Wd.lo si).toNat)]) rw_57 F H rfl rfl rfl rfl rfl) (Sx.wanted_none rfl _) rfl (by decide) (fun A F => ?_)
  refine Sx.sv F (Sx.d_load (i := 0) (xs := [.int .u64 ((Wd.hi n).toNat), .int .u64 ((Wd.lo n).toNat)]) rw_24 F H rfl rfl rfl rfl rfl) (Sx.wanted_none rfl _) rfl (by decide) (fun A F => ?_)
  refine Sx.sw F (Sx.d_call (vs := [.agg #[.int .u64 ((Wd.hi ss).toNat), .int .u64 ((Wd.lo ss).toNat), .int .u64 ((Wd.hi si).toNat), .int .u64 ((Wd.lo si).toNat)], .agg #[.int .u64 ((Wd.hi n).toNat), .int .u64 ((Wd.lo n).toNat)]]) (v := .tuple #[.agg #[.int .u64 ((Wd.hi 0#128).toNat), .int .u64 ((Wd.lo 0#128).toNat), .int .u64 ((Wd.hi 0#128).toNat), .int .u64 ((Wd.lo 0#128).toNat)], .int .i64 3]) if_40 F H rfl rfl (pjump_no ss si n (ho) _)) (Sx.wanted_none rfl _) rfl (by decide) (fun A w F H => ?_)
  refine Sx.sv F (Sx.d_move F (Or.inl rfl) rfl) (Sx.wanted_none rfl _) rfl (by decide) (fun A F => ?_)
  refine Sx.sv F (Sx.d_extract (v := .agg #[.int .u64 ((Wd.hi 0#128).toNat), .int .u64 ((Wd.lo 0#128).toNat), .int .u64 ((Wd.hi 0#128).toNat), .int .u64 ((Wd.lo 0#128).toNat)]) F rfl rfl rfl) (Sx.wanted_none rfl _) rfl (by decide) (fun A F => ?_)
  refine Sx.sv F (Sx.d_extract (v := .int .i64 3) F rfl rfl rfl) (Sx.wanted_none rfl _) rfl (by decide) (fun A F => ?_)
  refine Sx.sb F (Sx.d_alloc H rfl [.int .u64 ((Wd.hi 0#128).toNat), .int .u64 ((Wd.lo 0#128).toNat), .int .u64 ((Wd.hi 0#128).toNat), .int .u64 ((Wd.lo 0#128).toNat)] zero_57) (Sx.wanted_none rfl _) rfl (by decide) (fun g3 A w F H => ?_)
  refine Sx.ss F (Sx.d_store (i := 0) (xs := [.int .u64 ((Wd.hi 0#128).toNat), .int .u64 ((Wd.lo 0#128).toNat), .int .u64 ((Wd.hi 0#128).toNat), .int .u64 ((Wd.lo 0#128).toNat)]) (us := [.int .u64 ((Wd.hi 0#128).toNat), .int .u64 ((Wd.lo 0#128).toNat), .int .u64 ((Wd.hi 0#128).toNat), .int .u64 ((Wd.lo 0#128).toNat)]) sz_57 F H rfl rfl rfl rfl rfl rfl rfl (Nat.le_of_ble_eq_true rfl) rfl) (Sx.wanted_none rfl _) rfl (fun A w F (H : Sx.Own w0 _ [(true, g3, [.int .u64 ((Wd.hi 0#128).toNat), .int .u64 ((Wd.lo 0#128).toNat), .int .u64 ((Wd.hi 0#128).toNat), .int .u64 ((Wd.lo 0#128).toNat)]), (true, g2, [.int .u64 ((Wd.hi n).toNat), .int .u64 ((Wd.lo n).toNat)]), (true, g1, [.int .u64 ((Wd.hi ss).toNat), .int .u64 ((Wd.lo ss).toNat), .int .u64 ((Wd.hi si).toNat), .int .u64 ((Wd.lo si).toNat)])] []) => ?_)
  refine Sx.sv F (Sx.d_move F (Or.inr rfl) rfl) (Sx.wanted_none rfl _) rfl (by decide) (fun A F => ?_)
  refine Sx.nil ?_
  refine hK4 _ _ ?_
  refine Sx.seq (fun K5 hK5 => ?_)
  refine Sx.seq (fun K6 hK6 => ?_)
  refine Sx.plain ?_
  refine Sx.sv F (Sx.d_load (i := 2) (xs := [.int .u64 ((Wd.hi ss).toNat), .int .u64 ((Wd.lo ss).toNat), .int .u64 ((Wd.hi si).toNat), .int .u64 ((Wd.lo si).toNat)]) rw_57 F H rfl rfl rfl rfl rfl) (Sx.wanted_none rfl _) rfl (by decide) (fun A F => ?_)
  refine Sx.sw F (Sx.d_call (vs := [.agg #[.int .u64 ((Wd.hi ss).toNat), .int .u64 ((Wd.lo ss).toNat), .int .u64 ((Wd.hi si).toNat), .int .u64 ((Wd.lo si).toNat)]]) (v := .bool false) if_38 F H rfl rfl (Calls.val (pright_c ss si _) rfl (congrArg Value.bool (ho)))) (Sx.wanted_none rfl _) rfl (by decide) (fun A w F H => ?_)
  refine Sx.sv F (Sx.d_un (v := .bool true) F rfl rfl rfl) (Sx.wanted_none rfl _) rfl (by decide) (fun A F => ?_)
  refine Sx.nil ?_
  refine hK6 _ _ ?_
  refine Sx.condT F rfl ?_
  refine Sx.seq (fun K7 hK7 => ?_)
  refine Sx.plain ?_
  refine Sx.sv F (Sx.d_move F (Or.inl rfl) rfl) (Sx.wanted_none rfl _) rfl (by decide) (fun A F => ?_)
  refine Sx.sv F (Sx.d_bin (v := .bool true) F rfl rfl rfl (Sx.i_eq (by decide))) (Sx.wanted_none rfl _) rfl (by decide) (fun A F => ?_)
  refine Sx.sv F (Sx.d_move F (Or.inl rfl) rfl) (Sx.wanted_none rfl _) rfl (by decide) (fun A F => ?_)
  refine Sx.sv F (Sx.d_load (i := 0) (xs := [.int .u64 ((Wd.hi 0#128).toNat), .int .u64 ((Wd.lo 0#128).toNat), .int .u64 ((Wd.hi 0#128).toNat), .int .u64 ((Wd.lo 0#128).toNat)]) rw_57 F H rfl rfl rfl rfl rfl) (Sx.wanted_on rfl (Sx.guard_known (d := 21) (b := true) F rfl rfl) rfl) rfl (by decide) (fun A F => ?_)
  refine Sx.sv F (Sx.d_build (qs := #[]) (v := .agg #[.int .u64 ((Wd.hi 0#128).toNat), .int .u64 ((Wd.lo 0#128).toNat), .int .u64 ((Wd.hi 0#128).toNat), .int .u64 ((Wd.lo 0#128).toNat)]) F rfl rfl (by kernel_rfl)) (Sx.wanted_on rfl (Sx.guard_known (d := 21) (b := true) F rfl rfl) rfl) rfl (by decide) (fun A F => ?_)
  refine Sx.sv F (Sx.d_bin (v := .bool true) F rfl rfl rfl (Sx.i_eqP (Sx.eqbM_true rfl rfl))) (Sx.wanted_on rfl (Sx.guard_known (d := 21) (b := true) F rfl rfl) rfl) rfl (by decide) (fun A F => ?_)
  refine Sx.sv F (Sx.d_pickT (v := .bool true) F rfl rfl rfl) (Sx.wanted_none rfl _) rfl (by decide) (fun A F => ?_)
  refine Sx.sv F (Sx.d_move F (Or.inr rfl) rfl) (Sx.wanted_none rfl _) rfl (by decide) (fun A F => ?_)
  refine Sx.nil ?_
  refine hK7 _ _ ?_
  refine wp_ret ?_
  try dsimp only [Exit.then, Exit.inBlock, Exit.jump]
  refine Sx.ret1 F Try.results8 (Sx.res_tmp (v := .bool true) F rfl) ⟨?_, H.below⟩
  rfl
theorem pcgFar_walk (ss si n : BitVec 128) (w : World) : Calls Try.prog 8 #[.agg #[.int .u64 (Wd.hi (ss)).toNat, .int .u64 (Wd.lo (ss)).toNat, .int .u64 (Wd.hi (si)).toNat, .int .u64 (Wd.lo (si)).toNat], .agg #[.int .u64 (Wd.hi n).toNat, .int .u64 (Wd.lo n).toNat]] w fun e w' => e = .returned (.bool true) ∧ Below w.heap.size w w' := by
  cases ho : Af.odd si
  · exact pcgFar_no ss si n ho w
  · exact pcgFar_ok ss si n ho w
end Go.Proofs.Ytpbdffmgendboaa
