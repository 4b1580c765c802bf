/- wide.Len, Bit, ten walked. -/
import Derived.Test.YtpbdffmgendboabWc
import Derived.Test.YtpbdffmgendboabDvPlain
namespace Go.Proofs.Ytpbdffmgendboab
open Go Go.RowKit
set_option maxRecDepth 100000 in
theorem wlen_c (da : BitVec 128) (w0 : World) : Calls Try.prog 19 #[.agg #[.int .u64 ((Wd.hi da).toNat), .int .u64 ((Wd.lo da).toNat)]] w0 fun e w' => e = .returned (.int .i64 (Bi.len da)) ∧ Below w0.heap.size w0 w' := by
  refine Sx.enter (args := [.agg #[.int .u64 ((Wd.hi da).toNat), .int .u64 ((Wd.lo da).toNat)]]) Try.func19 rfl Try.ntmps19 (Nat.le_of_ble_eq_true rfl) (fun A F => ?_)
  have H := Sx.Own.start w0
  refine Sx.seq (fun K1 hK1 => ?_)
  refine Sx.plain ?_
  refine Sx.sb F (Sx.d_box F H rfl rfl [.int .u64 ((Wd.hi da).toNat), .int .u64 ((Wd.lo da).toNat)] rfl) (Sx.wanted_none rfl _) rfl (by decide) (fun g1 A w F H => ?_)
  refine Sx.sv F (Sx.d_move F (Or.inr rfl) rfl) (Sx.wanted_none rfl _) rfl (by decide) (fun A F => ?_)
  refine Sx.nil ?_
  refine hK1 _ _ ?_
  by_cases he : 0 < (Wd.hi da).toNat
  · skip
    refine Sx.seq (fun K2 hK2 => ?_)
    refine Sx.seq (fun K3 hK3 => ?_)
    refine Sx.plain ?_
    refine Sx.sv F (Sx.d_faddr (v := .pointer (some ⟨g1, 0, none⟩)) F rfl rfl (fa_24_0 _ 0 _)) (Sx.wanted_none rfl _) rfl (by decide) (fun A F => ?_)
    refine Sx.sv F (Sx.d_load1 (i := 0) (v := .int .u64 ((Wd.hi da).toNat)) one_22 F H rfl rfl rfl rfl) (Sx.wanted_none rfl _) rfl (by decide) (fun A F => ?_)
    refine Sx.sv F (Sx.d_bin (v := .bool true) F rfl rfl rfl (Sx.i_gt (decide_eq_true (by omega)))) (Sx.wanted_none rfl _) rfl (by decide) (fun A F => ?_)
    refine Sx.nil ?_
    refine hK3 _ _ ?_
    refine Sx.condT F rfl ?_
    refine Sx.seq (fun K4 hK4 => ?_)
    refine Sx.plain ?_
    refine Sx.sv F (Sx.d_faddr (v := .pointer (some ⟨g1, 0, none⟩)) F rfl rfl (fa_24_0 _ 0 _)) (Sx.wanted_none rfl _) rfl (by decide) (fun A F => ?_)
    refine Sx.sv F (Sx.d_load1 (i := 0) (v := .int .u64 ((Wd.hi da).toNat)) one_22 F H rfl rfl rfl rfl) (Sx.wanted_none rfl _) rfl (by decide) (fun A F => ?_)
    refine Sx.sw F (Sx.d_call (vs := [.int .u64 ((Wd.hi da).toNat)]) (v := .int .i64 (Ln.len64 (Wd.hi da))) if_54 F H rfl rfl (blen_c (Wd.hi da) _)) (Sx.wanted_none rfl _) rfl (by decide) (fun A w F H => ?_)
    refine Sx.sv F (Sx.d_bin (v := .int .i64 (64 + Ln.len64 (Wd.hi da) : Nat)) F rfl rfl rfl (Sx.i_addN rfl (Sx.in_i64 _ (by have := Ln.len64_le (Wd.hi da); omega)))) (Sx.wanted_none rfl _) rfl (by decide) (fun A F => ?_)
    refine Sx.sv F (Sx.d_move F (Or.inr rfl) rfl) (Sx.wanted_none rfl _) rfl (by decide) (fun A F => ?_)
    refine Sx.nil ?_
    refine hK4 _ _ ?_
    refine wp_ret ?_
    try dsimp only [Exit.then, Exit.inBlock, Exit.jump]
    refine Sx.ret1 F Try.results19 (Sx.res_tmp (v := .int .i64 (64 + Ln.len64 (Wd.hi da) : Nat)) F rfl) ⟨?_, H.below⟩
    rw [Ln.len_big da he]
  · skip
    refine Sx.seq (fun K5 hK5 => ?_)
    refine Sx.seq (fun K6 hK6 => ?_)
    refine Sx.plain ?_
    refine Sx.sv F (Sx.d_faddr (v := .pointer (some ⟨g1, 0, none⟩)) F rfl rfl (fa_24_0 _ 0 _)) (Sx.wanted_none rfl _) rfl (by decide) (fun A F => ?_)
    refine Sx.sv F (Sx.d_load1 (i := 0) (v := .int .u64 ((Wd.hi da).toNat)) one_22 F H rfl rfl rfl rfl) (Sx.wanted_none rfl _) rfl (by decide) (fun A F => ?_)
    refine Sx.sv F (Sx.d_bin (v := .bool false) F rfl rfl rfl (Sx.i_gt (decide_eq_false (by omega)))) (Sx.wanted_none rfl _) rfl (by decide) (fun A F => ?_)
    refine Sx.nil ?_
    refine hK6 _ _ ?_
    refine Sx.condF F rfl ?_
    refine wp_skip ?_
    refine hK5 _ _ ?_
    refine Sx.seq (fun K7 hK7 => ?_)
    refine Sx.plain ?_
    refine Sx.sv F (Sx.d_faddr (v := .pointer (some ⟨g1, 1, none⟩)) F rfl rfl (fa_24_1 _ 0 _)) (Sx.wanted_none rfl _) rfl (by decide) (fun A F => ?_)
    refine Sx.sv F (Sx.d_load1 (i := 0) (v := .int .u64 ((Wd.lo da).toNat)) one_22 F H rfl rfl rfl rfl) (Sx.wanted_none rfl _) rfl (by decide) (fun A F => ?_)
    refine Sx.sw F (Sx.d_call (vs := [.int .u64 ((Wd.lo da).toNat)]) (v := .int .i64 (Ln.len64 (Wd.lo da))) if_54 F H rfl rfl (blen_c (Wd.lo da) _)) (Sx.wanted_none rfl _) rfl (by decide) (fun A w F H => ?_)
    refine Sx.sv F (Sx.d_move F (Or.inr rfl) rfl) (Sx.wanted_none rfl _) rfl (by decide) (fun A F => ?_)
    refine Sx.nil ?_
    refine hK7 _ _ ?_
    refine wp_ret ?_
    try dsimp only [Exit.then, Exit.inBlock, Exit.jump]
    refine Sx.ret1 F Try.results19 (Sx.res_tmp (v := .int .i64 (Ln.len64 (Wd.lo da))) F rfl) ⟨?_, H.below⟩
    rw [Ln.len_small da (by omega)]
set_option maxRecDepth 100000 in
theorem wbitneg_c (da : BitVec 128) (i : Int) (hi : i < 0) (w0 : World) : Calls Try.prog 18 #[.agg #[.int .u64 ((Wd.hi da).toNat), .int .u64 ((Wd.lo da).toNat)], .int .i64 i] w0 fun e w' => e = .returned (.int .i64 0) ∧ Below w0.heap.size w0 w' := by
  refine Sx.enter (args := [.agg #[.int .u64 ((Wd.hi da).toNat), .int .u64 ((Wd.lo da).toNat)], .int .i64 i]) Try.func18 rfl Try.ntmps18 (Nat.le_of_ble_eq_true rfl) (fun A F => ?_)
  have H := Sx.Own.start w0
  refine Sx.seq (fun K1 hK1 => ?_)
  refine Sx.plain ?_
  refine Sx.sb F (Sx.d_box F H rfl rfl [.int .u64 ((Wd.hi da).toNat), .int .u64 ((Wd.lo da).toNat)] rfl) (Sx.wanted_none rfl _) rfl (by decide) (fun g1 A w F H => ?_)
  refine Sx.sv F (Sx.d_move F (Or.inr rfl) rfl) (Sx.wanted_none rfl _) rfl (by decide) (fun A F => ?_)
  refine Sx.nil ?_
  refine hK1 _ _ ?_
  refine Sx.seq (fun K2 hK2 => ?_)
  refine Sx.seq (fun K3 hK3 => ?_)
  refine Sx.plain ?_
  refine Sx.sv F (Sx.d_move F (Or.inl rfl) rfl) (Sx.wanted_none rfl _) rfl (by decide) (fun A F => ?_)
  refine Sx.sv F (Sx.d_bin (v := .bool true) F rfl rfl rfl (Sx.i_lt (decide_eq_true hi))) (Sx.wanted_none rfl _) rfl (by decide) (fun A F => ?_)
  refine Sx.nil ?_
  refine hK3 _ _ ?_
  refine Sx.condT F rfl ?_
  refine Sx.seq (fun K4 hK4 => ?_)
  refine Sx.plain ?_
  refine Sx.sv F (Sx.d_move F (Or.inr rfl) rfl) (Sx.wanted_none rfl _) rfl (by decide) (fun A F => ?_)
  refine Sx.nil ?_
  refine hK4 _ _ ?_
  refine wp_ret ?_
  try dsimp only [Exit.then, Exit.inBlock, Exit.jump]
  refine Sx.ret1 F Try.results18 (Sx.res_tmp (v := .int .i64 0) F rfl) ⟨?_, H.below⟩
  rfl
set_option maxRecDepth 100000 in
theorem bzeros_c  (w0 : World) : Calls Try.prog 75 #[.int .u64 10] w0 fun e w' => e = .returned (.int .i64 60) ∧ Below w0.heap.size w0 w' := by
  refine Sx.enter (args := [.int .u64 10]) Try.func75 rfl Try.ntmps75 (Nat.le_of_ble_eq_true rfl) (fun A F => ?_)
  have H := Sx.Own.start w0
  refine Sx.seq (fun K1 hK1 => ?_)
  refine Sx.plain ?_
  refine Sx.sv F (Sx.d_move F (Or.inr rfl) rfl) (Sx.wanted_none rfl _) rfl (by decide) (fun A F => ?_)
  refine Sx.nil ?_
  refine hK1 _ _ ?_
  refine Sx.seq (fun K2 hK2 => ?_)
  refine Sx.plain ?_
  refine Sx.sv F (Sx.d_move F (Or.inl rfl) rfl) (Sx.wanted_none rfl _) rfl (by decide) (fun A F => ?_)
  refine Sx.sw F (Sx.d_call (vs := [.int .u64 10]) (v := .int .i64 (Ln.len64 10#64)) if_54 F H rfl rfl (blen_c 10#64 _)) (Sx.wanted_none rfl _) rfl (by decide) (fun A w F H => ?_)
  refine Sx.sv F (Sx.d_bin (v := .int .i64 60) F rfl rfl rfl (Sx.i_subS (by kernel_rfl))) (Sx.wanted_none rfl _) rfl (by decide) (fun A F => ?_)
  refine Sx.sv F (Sx.d_move F (Or.inr rfl) rfl) (Sx.wanted_none rfl _) rfl (by decide) (fun A F => ?_)
  refine Sx.nil ?_
  refine hK2 _ _ ?_
  refine wp_ret ?_
  try dsimp only [Exit.then, Exit.inBlock, Exit.jump]
  refine Sx.ret1 F Try.results75 (Sx.res_tmp (v := .int .i64 60) F rfl) ⟨?_, H.below⟩
  rfl
set_option maxHeartbeats 4000000 in
set_option maxRecDepth 100000 in
theorem bdiv_c (dr dl : BitVec 64) (hr : dr.toNat < 10) (w0 : World) : Calls Try.prog 70 #[.int .u64 dr.toNat, .int .u64 dl.toNat, .int .u64 10] w0 fun e w' => e = .returned (.tuple #[.int .u64 ((Dv.q dr dl).toNat), .int .u64 ((Dv.m dr dl).toNat)]) ∧ Below w0.heap.size w0 w' := by
  refine Sx.enter (args := [.int .u64 dr.toNat, .int .u64 dl.toNat, .int .u64 10]) Try.func70 rfl Try.ntmps70 (Nat.le_of_ble_eq_true rfl) (fun A F => ?_)
  have H := Sx.Own.start w0
  refine Sx.seq (fun K1 hK1 => ?_)
  refine Sx.plain ?_
  refine Sx.sv F (Sx.d_move F (Or.inr rfl) rfl) (Sx.wanted_none rfl _) rfl (by decide) (fun A F => ?_)
  refine Sx.sv F (Sx.d_move F (Or.inr rfl) rfl) (Sx.wanted_none rfl _) rfl (by decide) (fun A F => ?_)
  refine Sx.nil ?_
  refine hK1 _ _ ?_
  refine Sx.seq (fun K2 hK2 => ?_)
  refine Sx.seq (fun K3 hK3 => ?_)
  refine Sx.plain ?_
  refine Sx.sv F (Sx.d_move F (Or.inl rfl) rfl) (Sx.wanted_none rfl _) rfl (by decide) (fun A F => ?_)
  refine Sx.sv F (Sx.d_bin (v := .bool false) F rfl rfl rfl (Sx.i_eq (by decide))) (Sx.wanted_none rfl _) rfl (by decide) (fun A F => ?_)
  refine Sx.nil ?_
  refine hK3 _ _ ?_
  refine Sx.condF F rfl ?_
  refine wp_skip ?_
  refine hK2 _ _ ?_
  refine Sx.seq (fun K4 hK4 => ?_)
  refine Sx.seq (fun K5 hK5 => ?_)
  refine Sx.plain ?_
  refine Sx.sv F (Sx.d_move F (Or.inl rfl) rfl) (Sx.wanted_none rfl _) rfl (by decide) (fun A F => ?_)
  refine Sx.sv F (Sx.d_move F (Or.inl rfl) rfl) (Sx.wanted_none rfl _) rfl (by decide) (fun A F => ?_)
  refine Sx.sv F (Sx.d_bin (v := .bool false) F rfl rfl rfl (Sx.i_le (decide_eq_false (by omega)))) (Sx.wanted_none rfl _) rfl (by decide) (fun A F => ?_)
  refine Sx.nil ?_
  refine hK5 _ _ ?_
  refine Sx.condF F rfl ?_
  refine wp_skip ?_
  refine hK4 _ _ ?_
  by_cases he : dr.toNat = 0
  · skip
    refine Sx.seq (fun K6 hK6 => ?_)
    refine Sx.seq (fun K7 hK7 => ?_)
    refine Sx.plain ?_
    refine Sx.sv F (Sx.d_move F (Or.inl rfl) rfl) (Sx.wanted_none rfl _) rfl (by decide) (fun A F => ?_)
    refine Sx.sv F (Sx.d_bin (v := .bool true) F rfl rfl rfl (Sx.i_eq (beq_iff_eq.2 (by omega)))) (Sx.wanted_none rfl _) rfl (by decide) (fun A F => ?_)
    refine Sx.nil ?_
    refine hK7 _ _ ?_
    refine Sx.condT F rfl ?_
    refine Sx.seq (fun K8 hK8 => ?_)
    have F := Sx.Fr.to F (kv' := [(0, .int .u64 dr.toNat), (1, .int .u64 dl.toNat), (2, .int .u64 10), (19, .int .u64 10), (20, .bool false), (22, .int .u64 10), (23, .int .u64 dr.toNat), (24, .bool false), (26, .int .u64 dr.toNat), (27, .bool true)]) ⟨rfl, rfl, rfl, rfl, rfl, rfl, rfl, rfl, rfl, rfl, trivial⟩
    refine Sx.drawn F (by kernel_rfl) (by kernel_rfl) (by kernel_rfl) [some (.int .u64 dl.toNat), some (.int .u64 10), some (.int .u64 ((dl / 10#64).toNat)), some (.int .u64 dl.toNat), some (.int .u64 10), some (.int .u64 ((dl % 10#64).toNat)), some (.int .u64 ((dl / 10#64).toNat)), some (.int .u64 ((dl % 10#64).toNat))] (fun L A w => Sx.Own w0 w [] []) H.drew ?_ ?_
    · refine ⟨?_, ?_, ?_, ?_, ?_, ?_, ?_, ?_, trivial⟩
      · show Sx.StepAt _ _ _ _ _ _ _ 0
        intro L A w up hun hd F H
        have F := Sx.Fr.to F (kv' := [(1, .int .u64 dl.toNat)]) ⟨rfl, trivial⟩
        refine Sx.step_on rfl (Sx.d_move F (Or.inl rfl) rfl) ?_
        rintro xv w' ⟨hx, rfl⟩
        exact ⟨(fun cv hc => hx.trans (Option.some.inj (Option.some.inj hc))), H⟩
      · show Sx.StepAt _ _ _ _ _ _ _ 1
        intro L A w up hun hd F H
        have F := Sx.Fr.to F (kv' := [(2, .int .u64 10)]) ⟨rfl, trivial⟩
        refine Sx.step_on rfl (Sx.d_move F (Or.inl rfl) rfl) ?_
        rintro xv w' ⟨hx, rfl⟩
        exact ⟨(fun cv hc => hx.trans (Option.some.inj (Option.some.inj hc))), H⟩
      · show Sx.StepAt _ _ _ _ _ _ _ 2
        intro L A w up hun hd F H
        have F := Sx.Fr.to F (kv' := [(28, .int .u64 dl.toNat), (29, .int .u64 10)]) ⟨rfl, rfl, trivial⟩
        refine Sx.step_on rfl (Sx.d_bin (v := .int .u64 ((dl / 10#64).toNat)) F rfl rfl rfl (Sx.i_quo64 dl 10#64 (by decide))) ?_
        rintro xv w' ⟨hx, rfl⟩
        exact ⟨(fun cv hc => hx.trans (Option.some.inj (Option.some.inj hc))), H⟩
      · show Sx.StepAt _ _ _ _ _ _ _ 3
        intro L A w up hun hd F H
        have F := Sx.Fr.to F (kv' := [(1, .int .u64 dl.toNat)]) ⟨rfl, trivial⟩
        refine Sx.step_on rfl (Sx.d_move F (Or.inl rfl) rfl) ?_
        rintro xv w' ⟨hx, rfl⟩
        exact ⟨(fun cv hc => hx.trans (Option.some.inj (Option.some.inj hc))), H⟩
      · show Sx.StepAt _ _ _ _ _ _ _ 4
        intro L A w up hun hd F H
        have F := Sx.Fr.to F (kv' := [(2, .int .u64 10)]) ⟨rfl, trivial⟩
        refine Sx.step_on rfl (Sx.d_move F (Or.inl rfl) rfl) ?_
        rintro xv w' ⟨hx, rfl⟩
        exact ⟨(fun cv hc => hx.trans (Option.some.inj (Option.some.inj hc))), H⟩
      · show Sx.StepAt _ _ _ _ _ _ _ 5
        intro L A w up hun hd F H
        have F := Sx.Fr.to F (kv' := [(31, .int .u64 dl.toNat), (32, .int .u64 10)]) ⟨rfl, rfl, trivial⟩
        refine Sx.step_on rfl (Sx.d_bin (v := .int .u64 ((dl % 10#64).toNat)) F rfl rfl rfl (Sx.i_rem64 dl 10#64 (by decide))) ?_
        rintro xv w' ⟨hx, rfl⟩
        exact ⟨(fun cv hc => hx.trans (Option.some.inj (Option.some.inj hc))), H⟩
      · show Sx.StepAt _ _ _ _ _ _ _ 6
        intro L A w up hun hd F H
        have F := Sx.Fr.to F (kv' := [(30, .int .u64 ((dl / 10#64).toNat))]) ⟨rfl, trivial⟩
        refine Sx.step_on rfl (Sx.d_move F (Or.inr rfl) rfl) ?_
        rintro xv w' ⟨hx, rfl⟩
        exact ⟨(fun cv hc => hx.trans (Option.some.inj (Option.some.inj hc))), H⟩
      · show Sx.StepAt _ _ _ _ _ _ _ 7
        intro L A w up hun hd F H
        have F := Sx.Fr.to F (kv' := [(33, .int .u64 ((dl % 10#64).toNat))]) ⟨rfl, trivial⟩
        refine Sx.step_on rfl (Sx.d_move F (Or.inr rfl) rfl) ?_
        rintro xv w' ⟨hx, rfl⟩
        exact ⟨(fun cv hc => hx.trans (Option.some.inj (Option.some.inj hc))), H⟩
    · intro L A w hL F H
      have F := Sx.Fr.to F (kv' := [(0, .int .u64 dr.toNat), (1, .int .u64 dl.toNat), (2, .int .u64 10), (19, .int .u64 10), (20, .bool false), (22, .int .u64 10), (23, .int .u64 dr.toNat), (24, .bool false), (26, .int .u64 dr.toNat), (27, .bool true), (6, .int .u64 ((dl / 10#64).toNat)), (7, .int .u64 ((dl % 10#64).toNat))]) ⟨rfl, rfl, rfl, rfl, rfl, rfl, rfl, rfl, rfl, rfl, rfl, rfl, trivial⟩
      refine hK8 _ _ ?_
      refine wp_ret ?_
      try dsimp only [Exit.then, Exit.inBlock, Exit.jump]
      refine Sx.ret2 F Try.results70 (Sx.res_tmp (v := .int .u64 ((dl / 10#64).toNat)) F rfl) (Sx.res_tmp (v := .int .u64 ((dl % 10#64).toNat)) F rfl) ⟨?_, H.below⟩
      rw [(Dv.zero dr dl he).1, (Dv.zero dr dl he).2]
  · skip
    refine Sx.seq (fun K9 hK9 => ?_)
    refine Sx.seq (fun K10 hK10 => ?_)
    refine Sx.plain ?_
    refine Sx.sv F (Sx.d_move F (Or.inl rfl) rfl) (Sx.wanted_none rfl _) rfl (by decide) (fun A F => ?_)
    refine Sx.sv F (Sx.d_bin (v := .bool false) F rfl rfl rfl (Sx.i_eq (beq_false_of_ne (by omega)))) (Sx.wanted_none rfl _) rfl (by decide) (fun A F => ?_)
    refine Sx.nil ?_
    refine hK10 _ _ ?_
    refine Sx.condF F rfl ?_
    refine wp_skip ?_
    refine hK9 _ _ ?_
    refine Sx.seq (fun K11 hK11 => ?_)
    refine Sx.plain ?_
    refine Sx.sv F (Sx.d_move F (Or.inl rfl) rfl) (Sx.wanted_none rfl _) rfl (by decide) (fun A F => ?_)
    refine Sx.sw F (Sx.d_call (vs := [.int .u64 10]) (v := .int .i64 60) if_75 F H rfl rfl (bzeros_c _)) (Sx.wanted_none rfl _) rfl (by decide) (fun A w F H => ?_)
    refine Sx.sv F (Sx.d_conv (v := .int .u64 60) F rfl rfl (by kernel_rfl)) (Sx.wanted_none rfl _) rfl (by decide) (fun A F => ?_)
    refine Sx.sv F (Sx.d_move F (Or.inr rfl) rfl) (Sx.wanted_none rfl _) rfl (by decide) (fun A F => ?_)
    refine Sx.nil ?_
    refine hK11 _ _ ?_
    refine Sx.seq (fun K12 hK12 => ?_)
    refine Sx.plain ?_
    refine Sx.sv F (Sx.d_move F (Or.inl rfl) rfl) (Sx.wanted_none rfl _) rfl (by decide) (fun A F => ?_)
    refine Sx.sv F (Sx.d_move F (Or.inl rfl) rfl) (Sx.wanted_none rfl _) rfl (by decide) (fun A F => ?_)
    refine Sx.sv F (Sx.d_bin (v := .int .u64 11529215046068469760) F rfl rfl rfl (by kernel_rfl)) (Sx.wanted_none rfl _) rfl (by decide) (fun A F => ?_)
    refine Sx.sv F (Sx.d_move F (Or.inr rfl) rfl) (Sx.wanted_none rfl _) rfl (by decide) (fun A F => ?_)
    refine Sx.nil ?_
    refine hK12 _ _ ?_
    refine Sx.seq (fun K13 hK13 => ?_)
    refine Sx.plain ?_
    refine Sx.sv F (Sx.d_move F (Or.inl rfl) rfl) (Sx.wanted_none rfl _) rfl (by decide) (fun A F => ?_)
    refine Sx.sv F (Sx.d_bin (v := .int .u64 2684354560) F rfl rfl rfl (by kernel_rfl)) (Sx.wanted_none rfl _) rfl (by decide) (fun A F => ?_)
    refine Sx.sv F (Sx.d_move F (Or.inr rfl) rfl) (Sx.wanted_none rfl _) rfl (by decide) (fun A F => ?_)
    refine Sx.nil ?_
    refine hK13 _ _ ?_
    refine Sx.seq (fun K14 hK14 => ?_)
    refine Sx.plain ?_
    refine Sx.sv F (Sx.d_move F (Or.inl rfl) rfl) (Sx.wanted_none rfl _) rfl (by decide) (fun A F => ?_)
    refine Sx.sv F (Sx.d_bin (v := .int .u64 0) F rfl rfl rfl (by kernel_rfl)) (Sx.wanted_none rfl _) rfl (by decide) (fun A F => ?_)
    refine Sx.sv F (Sx.d_move F (Or.inr rfl) rfl) (Sx.wanted_none rfl _) rfl (by decide) (fun A F => ?_)
    refine Sx.nil ?_
    refine hK14 _ _ ?_
    refine Sx.seq (fun K15 hK15 => ?_)
    refine Sx.plain ?_
    refine Sx.sv F (Sx.d_move F (Or.inl rfl) rfl) (Sx.wanted_none rfl _) rfl (by decide) (fun A F => ?_)
    refine Sx.sv F (Sx.d_move F (Or.inl rfl) rfl) (Sx.wanted_none rfl _) rfl (by decide) (fun A F => ?_)
    refine Sx.sv F (Sx.d_bin (v := .int .u64 ((dr <<< 60).toNat)) F rfl rfl rfl (Sx.i_shl64 dr 60 (by decide) _)) (Sx.wanted_none rfl _) rfl (by decide) (fun A F => ?_)
    refine Sx.sv F (Sx.d_move F (Or.inl rfl) rfl) (Sx.wanted_none rfl _) rfl (by decide) (fun A F => ?_)
    refine Sx.sv F (Sx.d_move F (Or.inl rfl) rfl) (Sx.wanted_none rfl _) rfl (by decide) (fun A F => ?_)
    refine Sx.sv F (Sx.d_bin (v := .int .u64 4) F rfl rfl rfl (by kernel_rfl)) (Sx.wanted_none rfl _) rfl (by decide) (fun A F => ?_)
    refine Sx.sv F (Sx.d_bin (v := .int .u64 ((dl >>> 4).toNat)) F rfl rfl rfl (Sx.i_shr64 dl 4 (by decide) _)) (Sx.wanted_none rfl _) rfl (by decide) (fun A F => ?_)
    refine Sx.sv F (Sx.d_bin (v := .int .u64 (((dr <<< 60) ||| (dl >>> 4)).toNat)) F rfl rfl rfl (Sx.i_or64 (dr <<< 60) (dl >>> 4))) (Sx.wanted_none rfl _) rfl (by decide) (fun A F => ?_)
    refine Sx.sv F (Sx.d_move F (Or.inr rfl) rfl) (Sx.wanted_none rfl _) rfl (by decide) (fun A F => ?_)
    refine Sx.nil ?_
    obtain ⟨u32, eu32⟩ : ∃ q, ((dr <<< 60) ||| (dl >>> 4)) = q := ⟨_, rfl⟩
    rw [eu32] at F
    have hu := Dv.u32_nat dr dl u32 hr eu32; clear eu32
    refine hK15 _ _ ?_
    refine Sx.seq (fun K16 hK16 => ?_)
    refine Sx.plain ?_
    refine Sx.sv F (Sx.d_move F (Or.inl rfl) rfl) (Sx.wanted_none rfl _) rfl (by decide) (fun A F => ?_)
    refine Sx.sv F (Sx.d_move F (Or.inl rfl) rfl) (Sx.wanted_none rfl _) rfl (by decide) (fun A F => ?_)
    refine Sx.sv F (Sx.d_bin (v := .int .u64 ((dl <<< 60).toNat)) F rfl rfl rfl (Sx.i_shl64 dl 60 (by decide) _)) (Sx.wanted_none rfl _) rfl (by decide) (fun A F => ?_)
    refine Sx.sv F (Sx.d_move F (Or.inr rfl) rfl) (Sx.wanted_none rfl _) rfl (by decide) (fun A F => ?_)
    refine Sx.nil ?_
    obtain ⟨u10, eu10⟩ : ∃ q, (dl <<< 60) = q := ⟨_, rfl⟩
    rw [eu10] at F
    have hx := Dv.u10_nat dr dl u10 eu10; clear eu10
    refine hK16 _ _ ?_
    refine Sx.seq (fun K17 hK17 => ?_)
    refine Sx.plain ?_
    refine Sx.sv F (Sx.d_move F (Or.inl rfl) rfl) (Sx.wanted_none rfl _) rfl (by decide) (fun A F => ?_)
    refine Sx.sv F (Sx.d_bin (v := .int .u64 ((u10 >>> 32).toNat)) F rfl rfl rfl (Sx.i_shr64 u10 32 (by decide) _)) (Sx.wanted_none rfl _) rfl (by decide) (fun A F => ?_)
    refine Sx.sv F (Sx.d_move F (Or.inr rfl) rfl) (Sx.wanted_none rfl _) rfl (by decide) (fun A F => ?_)
    refine Sx.nil ?_
    obtain ⟨u1, eu1⟩ : ∃ q, (u10 >>> 32) = q := ⟨_, rfl⟩
    rw [eu1] at F
    have h1 := Dv.u1_nat dr dl u10 u1 hx eu1; clear eu1
    refine hK17 _ _ ?_
    refine Sx.seq (fun K18 hK18 => ?_)
    refine Sx.plain ?_
    refine Sx.sv F (Sx.d_move F (Or.inl rfl) rfl) (Sx.wanted_none rfl _) rfl (by decide) (fun A F => ?_)
    refine Sx.sv F (Sx.d_bin (v := .int .u64 ((u10 &&& 4294967295#64).toNat)) F rfl rfl rfl (Sx.i_and64 u10 4294967295#64)) (Sx.wanted_none rfl _) rfl (by decide) (fun A F => ?_)
    refine Sx.sv F (Sx.d_move F (Or.inr rfl) rfl) (Sx.wanted_none rfl _) rfl (by decide) (fun A F => ?_)
    refine Sx.nil ?_
    obtain ⟨u0, eu0⟩ : ∃ q, (u10 &&& 4294967295#64) = q := ⟨_, rfl⟩
    rw [eu0] at F
    have h0 := Dv.u0_nat dr dl _ _ hx eu0; clear eu0; subst h0
    refine hK18 _ _ ?_
    refine Sx.seq (fun K19 hK19 => ?_)
    refine Sx.plain ?_
    refine Sx.sv F (Sx.d_move F (Or.inl rfl) rfl) (Sx.wanted_none rfl _) rfl (by decide) (fun A F => ?_)
    refine Sx.sv F (Sx.d_move F (Or.inl rfl) rfl) (Sx.wanted_none rfl _) rfl (by decide) (fun A F => ?_)
    refine Sx.sv F (Sx.d_bin (v := .int .u64 ((u32 / 2684354560#64).toNat)) F rfl rfl rfl (Sx.i_quo64 u32 2684354560#64 (by decide))) (Sx.wanted_none rfl _) rfl (by decide) (fun A F => ?_)
    refine Sx.sv F (Sx.d_move F (Or.inr rfl) rfl) (Sx.wanted_none rfl _) rfl (by decide) (fun A F => ?_)
    refine Sx.nil ?_
    obtain ⟨q1, eq1⟩ : ∃ q, (u32 / 2684354560#64) = q := ⟨_, rfl⟩
    rw [eq1] at F
    have hq1 := Dv.q1_nat u32 q1 eq1; clear eq1
    refine hK19 _ _ ?_
    refine Sx.seq (fun K20 hK20 => ?_)
    refine Sx.plain ?_
    refine Sx.sv F (Sx.d_move F (Or.inl rfl) rfl) (Sx.wanted_none rfl _) rfl (by decide) (fun A F => ?_)
    refine Sx.sv F (Sx.d_move F (Or.inl rfl) rfl) (Sx.wanted_none rfl _) rfl (by decide) (fun A F => ?_)
    refine Sx.sv F (Sx.d_move F (Or.inl rfl) rfl) (Sx.wanted_none rfl _) rfl (by decide) (fun A F => ?_)
    refine Sx.sv F (Sx.d_bin (v := .int .u64 ((q1 * 2684354560#64).toNat)) F rfl rfl rfl (Sx.i_mul64 q1 2684354560#64)) (Sx.wanted_none rfl _) rfl (by decide) (fun A F => ?_)
    refine Sx.sv F (Sx.d_bin (v := .int .u64 ((u32 - (q1 * 2684354560#64)).toNat)) F rfl rfl rfl (Sx.i_sub64 u32 (q1 * 2684354560#64))) (Sx.wanted_none rfl _) rfl (by decide) (fun A F => ?_)
    refine Sx.sv F (Sx.d_move F (Or.inr rfl) rfl) (Sx.wanted_none rfl _) rfl (by decide) (fun A F => ?_)
    refine Sx.nil ?_
    obtain ⟨rh, erh⟩ : ∃ q, (u32 - (q1 * 2684354560#64)) = q := ⟨_, rfl⟩
    rw [erh] at F
    clear erh
    refine hK20 _ _ ?_
    refine Sx.seq (fun K21 hK21 => ?_)
    refine wp_block ?_
    refine wp_loop_rounds 1 ?_
    try dsimp only [Exit.then]
    rw [rounds_succ]
    refine Sx.seq (fun K22 hK22 => ?_)
    refine Sx.seq (fun K23 hK23 => ?_)
    refine Sx.plain ?_
    refine Sx.sv F (Sx.d_move F (Or.inl rfl) rfl) (Sx.wanted_none rfl _) rfl (by decide) (fun A F => ?_)
    refine Sx.sv F (Sx.d_bin (v := .bool false) F rfl rfl rfl (Sx.i_ge (decide_eq_false (by have := Dv.num_lt dr dl hr; omega)))) (Sx.wanted_none rfl _) rfl (by decide) (fun A F => ?_)
    refine Sx.sv F (Sx.d_move F (Or.inl rfl) rfl) (Sx.wanted_none rfl _) rfl (by decide) (fun A F => ?_)
    refine Sx.sv F (Sx.d_move F (Or.inl rfl) rfl) (Sx.wanted_on rfl (Sx.guard_known (d := 69) (b := false) F rfl rfl) rfl) rfl (by decide) (fun A F => ?_)
    refine Sx.sv F (Sx.d_move F (Or.inl rfl) rfl) (Sx.wanted_on rfl (Sx.guard_known (d := 69) (b := false) F rfl rfl) rfl) rfl (by decide) (fun A F => ?_)
    refine Sx.sv F (Sx.d_bin (v := .int .u64 ((q1 * 0#64).toNat)) F rfl rfl rfl (Sx.i_mul64 q1 0#64)) (Sx.wanted_on rfl (Sx.guard_known (d := 69) (b := false) F rfl rfl) rfl) rfl (by decide) (fun A F => ?_)
    refine Sx.sv F (Sx.d_move F (Or.inl rfl) rfl) (Sx.wanted_on rfl (Sx.guard_known (d := 69) (b := false) F rfl rfl) rfl) rfl (by decide) (fun A F => ?_)
    refine Sx.sv F (Sx.d_bin (v := .int .u64 ((4294967296#64 * rh).toNat)) F rfl rfl rfl (Sx.i_mul64 4294967296#64 rh)) (Sx.wanted_on rfl (Sx.guard_known (d := 69) (b := false) F rfl rfl) rfl) rfl (by decide) (fun A F => ?_)
    refine Sx.sv F (Sx.d_move F (Or.inl rfl) rfl) (Sx.wanted_on rfl (Sx.guard_known (d := 69) (b := false) F rfl rfl) rfl) rfl (by decide) (fun A F => ?_)
    refine Sx.sv F (Sx.d_bin (v := .int .u64 (((4294967296#64 * rh) + u1).toNat)) F rfl rfl rfl (Sx.i_add64 (4294967296#64 * rh) u1)) (Sx.wanted_on rfl (Sx.guard_known (d := 69) (b := false) F rfl rfl) rfl) rfl (by decide) (fun A F => ?_)
    refine Sx.sv F (Sx.d_bin (v := .bool false) F rfl rfl rfl (Sx.i_gt (Dv.gt0 _ _ _))) (Sx.wanted_on rfl (Sx.guard_known (d := 69) (b := false) F rfl rfl) rfl) rfl (by decide) (fun A F => ?_)
    refine Sx.sv F (Sx.d_pickF (v := .bool false) F rfl rfl rfl) (Sx.wanted_none rfl _) rfl (by decide) (fun A F => ?_)
    refine Sx.nil ?_
    refine hK23 _ _ ?_
    refine Sx.condF F rfl ?_
    refine wp_exit ?_
    try dsimp only [Exit.then, Exit.jump]
    refine Sx.exit_here ?_
    refine hK21 _ _ ?_
    refine Sx.seq (fun K24 hK24 => ?_)
    refine Sx.plain ?_
    refine Sx.sv F (Sx.d_move F (Or.inl rfl) rfl) (Sx.wanted_none rfl _) rfl (by decide) (fun A F => ?_)
    refine Sx.sv F (Sx.d_bin (v := .int .u64 ((u32 * 4294967296#64).toNat)) F rfl rfl rfl (Sx.i_mul64 u32 4294967296#64)) (Sx.wanted_none rfl _) rfl (by decide) (fun A F => ?_)
    refine Sx.sv F (Sx.d_move F (Or.inl rfl) rfl) (Sx.wanted_none rfl _) rfl (by decide) (fun A F => ?_)
    refine Sx.sv F (Sx.d_bin (v := .int .u64 (((u32 * 4294967296#64) + u1).toNat)) F rfl rfl rfl (Sx.i_add64 (u32 * 4294967296#64) u1)) (Sx.wanted_none rfl _) rfl (by decide) (fun A F => ?_)
    refine Sx.sv F (Sx.d_move F (Or.inl rfl) rfl) (Sx.wanted_none rfl _) rfl (by decide) (fun A F => ?_)
    refine Sx.sv F (Sx.d_move F (Or.inl rfl) rfl) (Sx.wanted_none rfl _) rfl (by decide) (fun A F => ?_)
    refine Sx.sv F (Sx.d_bin (v := .int .u64 ((q1 * 11529215046068469760#64).toNat)) F rfl rfl rfl (Sx.i_mul64 q1 11529215046068469760#64)) (Sx.wanted_none rfl _) rfl (by decide) (fun A F => ?_)
    refine Sx.sv F (Sx.d_bin (v := .int .u64 ((((u32 * 4294967296#64) + u1) - (q1 * 11529215046068469760#64)).toNat)) F rfl rfl rfl (Sx.i_sub64 ((u32 * 4294967296#64) + u1) (q1 * 11529215046068469760#64))) (Sx.wanted_none rfl _) rfl (by decide) (fun A F => ?_)
    refine Sx.sv F (Sx.d_move F (Or.inr rfl) rfl) (Sx.wanted_none rfl _) rfl (by decide) (fun A F => ?_)
    refine Sx.nil ?_
    obtain ⟨u21, eu21⟩ : ∃ q, (((u32 * 4294967296#64) + u1) - (q1 * 11529215046068469760#64)) = q := ⟨_, rfl⟩
    rw [eu21] at F
    have h21 := Dv.u21_nat dr dl u32 q1 u1 u21 hr hu hq1 h1 eu21; clear eu21
    refine hK24 _ _ ?_
    refine Sx.seq (fun K25 hK25 => ?_)
    refine Sx.plain ?_
    refine Sx.sv F (Sx.d_move F (Or.inl rfl) rfl) (Sx.wanted_none rfl _) rfl (by decide) (fun A F => ?_)
    refine Sx.sv F (Sx.d_move F (Or.inl rfl) rfl) (Sx.wanted_none rfl _) rfl (by decide) (fun A F => ?_)
    refine Sx.sv F (Sx.d_bin (v := .int .u64 ((u21 / 2684354560#64).toNat)) F rfl rfl rfl (Sx.i_quo64 u21 2684354560#64 (by decide))) (Sx.wanted_none rfl _) rfl (by decide) (fun A F => ?_)
    refine Sx.sv F (Sx.d_move F (Or.inr rfl) rfl) (Sx.wanted_none rfl _) rfl (by decide) (fun A F => ?_)
    refine Sx.nil ?_
    obtain ⟨q0, eq0⟩ : ∃ q, (u21 / 2684354560#64) = q := ⟨_, rfl⟩
    rw [eq0] at F
    have hq0 := Dv.q1_nat u21 q0 eq0; clear eq0
    refine hK25 _ _ ?_
    refine Sx.seq (fun K26 hK26 => ?_)
    refine Sx.plain ?_
    refine Sx.sv F (Sx.d_move F (Or.inl rfl) rfl) (Sx.wanted_none rfl _) rfl (by decide) (fun A F => ?_)
    refine Sx.sv F (Sx.d_move F (Or.inl rfl) rfl) (Sx.wanted_none rfl _) rfl (by decide) (fun A F => ?_)
    refine Sx.sv F (Sx.d_move F (Or.inl rfl) rfl) (Sx.wanted_none rfl _) rfl (by decide) (fun A F => ?_)
    refine Sx.sv F (Sx.d_bin (v := .int .u64 ((q0 * 2684354560#64).toNat)) F rfl rfl rfl (Sx.i_mul64 q0 2684354560#64)) (Sx.wanted_none rfl _) rfl (by decide) (fun A F => ?_)
    refine Sx.sv F (Sx.d_bin (v := .int .u64 ((u21 - (q0 * 2684354560#64)).toNat)) F rfl rfl rfl (Sx.i_sub64 u21 (q0 * 2684354560#64))) (Sx.wanted_none rfl _) rfl (by decide) (fun A F => ?_)
    refine Sx.sv F (Sx.d_move F (Or.inr rfl) rfl) (Sx.wanted_none rfl _) rfl (by decide) (fun A F => ?_)
    refine Sx.nil ?_
    obtain ⟨rg, erg⟩ : ∃ q, (u21 - (q0 * 2684354560#64)) = q := ⟨_, rfl⟩
    rw [erg] at F
    clear erg
    refine hK26 _ _ ?_
    refine Sx.seq (fun K27 hK27 => ?_)
    refine wp_block ?_
    refine wp_loop_rounds 1 ?_
    try dsimp only [Exit.then]
    rw [rounds_succ]
    refine Sx.seq (fun K28 hK28 => ?_)
    refine Sx.seq (fun K29 hK29 => ?_)
    refine Sx.plain ?_
    refine Sx.sv F (Sx.d_move F (Or.inl rfl) rfl) (Sx.wanted_none rfl _) rfl (by decide) (fun A F => ?_)
    refine Sx.sv F (Sx.d_bin (v := .bool false) F rfl rfl rfl (Sx.i_ge (decide_eq_false (by have := u21.isLt; omega)))) (Sx.wanted_none rfl _) rfl (by decide) (fun A F => ?_)
    refine Sx.sv F (Sx.d_move F (Or.inl rfl) rfl) (Sx.wanted_none rfl _) rfl (by decide) (fun A F => ?_)
    refine Sx.sv F (Sx.d_move F (Or.inl rfl) rfl) (Sx.wanted_on rfl (Sx.guard_known (d := 104) (b := false) F rfl rfl) rfl) rfl (by decide) (fun A F => ?_)
    refine Sx.sv F (Sx.d_move F (Or.inl rfl) rfl) (Sx.wanted_on rfl (Sx.guard_known (d := 104) (b := false) F rfl rfl) rfl) rfl (by decide) (fun A F => ?_)
    refine Sx.sv F (Sx.d_bin (v := .int .u64 ((q0 * 0#64).toNat)) F rfl rfl rfl (Sx.i_mul64 q0 0#64)) (Sx.wanted_on rfl (Sx.guard_known (d := 104) (b := false) F rfl rfl) rfl) rfl (by decide) (fun A F => ?_)
    refine Sx.sv F (Sx.d_move F (Or.inl rfl) rfl) (Sx.wanted_on rfl (Sx.guard_known (d := 104) (b := false) F rfl rfl) rfl) rfl (by decide) (fun A F => ?_)
    refine Sx.sv F (Sx.d_bin (v := .int .u64 ((4294967296#64 * rg).toNat)) F rfl rfl rfl (Sx.i_mul64 4294967296#64 rg)) (Sx.wanted_on rfl (Sx.guard_known (d := 104) (b := false) F rfl rfl) rfl) rfl (by decide) (fun A F => ?_)
    refine Sx.sv F (Sx.d_move F (Or.inl rfl) rfl) (Sx.wanted_on rfl (Sx.guard_known (d := 104) (b := false) F rfl rfl) rfl) rfl (by decide) (fun A F => ?_)
    refine Sx.sv F (Sx.d_bin (v := .int .u64 (((4294967296#64 * rg) + (0#64)).toNat)) F rfl rfl rfl (Sx.i_add64 (4294967296#64 * rg) (0#64))) (Sx.wanted_on rfl (Sx.guard_known (d := 104) (b := false) F rfl rfl) rfl) rfl (by decide) (fun A F => ?_)
    refine Sx.sv F (Sx.d_bin (v := .bool false) F rfl rfl rfl (Sx.i_gt (Dv.gt0 _ _ _))) (Sx.wanted_on rfl (Sx.guard_known (d := 104) (b := false) F rfl rfl) rfl) rfl (by decide) (fun A F => ?_)
    refine Sx.sv F (Sx.d_pickF (v := .bool false) F rfl rfl rfl) (Sx.wanted_none rfl _) rfl (by decide) (fun A F => ?_)
    refine Sx.nil ?_
    refine hK29 _ _ ?_
    refine Sx.condF F rfl ?_
    refine wp_exit ?_
    try dsimp only [Exit.then, Exit.jump]
    refine Sx.exit_here ?_
    refine hK27 _ _ ?_
    refine Sx.seq (fun K30 hK30 => ?_)
    refine Sx.plain ?_
    refine Sx.sv F (Sx.d_move F (Or.inl rfl) rfl) (Sx.wanted_none rfl _) rfl (by decide) (fun A F => ?_)
    refine Sx.sv F (Sx.d_bin (v := .int .u64 ((q1 * 4294967296#64).toNat)) F rfl rfl rfl (Sx.i_mul64 q1 4294967296#64)) (Sx.wanted_none rfl _) rfl (by decide) (fun A F => ?_)
    refine Sx.sv F (Sx.d_move F (Or.inl rfl) rfl) (Sx.wanted_none rfl _) rfl (by decide) (fun A F => ?_)
    refine Sx.sv F (Sx.d_bin (v := .int .u64 (((q1 * 4294967296#64) + q0).toNat)) F rfl rfl rfl (Sx.i_add64 (q1 * 4294967296#64) q0)) (Sx.wanted_none rfl _) rfl (by decide) (fun A F => ?_)
    refine Sx.sv F (Sx.d_move F (Or.inl rfl) rfl) (Sx.wanted_none rfl _) rfl (by decide) (fun A F => ?_)
    refine Sx.sv F (Sx.d_bin (v := .int .u64 ((u21 * 4294967296#64).toNat)) F rfl rfl rfl (Sx.i_mul64 u21 4294967296#64)) (Sx.wanted_none rfl _) rfl (by decide) (fun A F => ?_)
    refine Sx.sv F (Sx.d_move F (Or.inl rfl) rfl) (Sx.wanted_none rfl _) rfl (by decide) (fun A F => ?_)
    refine Sx.sv F (Sx.d_bin (v := .int .u64 (((u21 * 4294967296#64) + (0#64)).toNat)) F rfl rfl rfl (Sx.i_add64 (u21 * 4294967296#64) (0#64))) (Sx.wanted_none rfl _) rfl (by decide) (fun A F => ?_)
    refine Sx.sv F (Sx.d_move F (Or.inl rfl) rfl) (Sx.wanted_none rfl _) rfl (by decide) (fun A F => ?_)
    refine Sx.sv F (Sx.d_move F (Or.inl rfl) rfl) (Sx.wanted_none rfl _) rfl (by decide) (fun A F => ?_)
    refine Sx.sv F (Sx.d_bin (v := .int .u64 ((q0 * 11529215046068469760#64).toNat)) F rfl rfl rfl (Sx.i_mul64 q0 11529215046068469760#64)) (Sx.wanted_none rfl _) rfl (by decide) (fun A F => ?_)
    refine Sx.sv F (Sx.d_bin (v := .int .u64 ((((u21 * 4294967296#64) + (0#64)) - (q0 * 11529215046068469760#64)).toNat)) F rfl rfl rfl (Sx.i_sub64 ((u21 * 4294967296#64) + (0#64)) (q0 * 11529215046068469760#64))) (Sx.wanted_none rfl _) rfl (by decide) (fun A F => ?_)
    refine Sx.sv F (Sx.d_move F (Or.inl rfl) rfl) (Sx.wanted_none rfl _) rfl (by decide) (fun A F => ?_)
    refine Sx.sv F (Sx.d_bin (v := .int .u64 (((((u21 * 4294967296#64) + (0#64)) - (q0 * 11529215046068469760#64)) >>> 60).toNat)) F rfl rfl rfl (Sx.i_shr64 (((u21 * 4294967296#64) + (0#64)) - (q0 * 11529215046068469760#64)) 60 (by decide) _)) (Sx.wanted_none rfl _) rfl (by decide) (fun A F => ?_)
    refine Sx.sv F (Sx.d_move F (Or.inr rfl) rfl) (Sx.wanted_none rfl _) rfl (by decide) (fun A F => ?_)
    refine Sx.sv F (Sx.d_move F (Or.inr rfl) rfl) (Sx.wanted_none rfl _) rfl (by decide) (fun A F => ?_)
    refine Sx.nil ?_
    refine hK30 _ _ ?_
    refine wp_ret ?_
    try dsimp only [Exit.then, Exit.inBlock, Exit.jump]
    refine Sx.ret2 F Try.results70 (Sx.res_tmp (v := .int .u64 (((q1 * 4294967296#64) + q0).toNat)) F rfl) (Sx.res_tmp (v := .int .u64 (((((u21 * 4294967296#64) + (0#64)) - (q0 * 11529215046068469760#64)) >>> 60).toNat)) F rfl) ⟨?_, H.below⟩
    rw [Dv.done_q dr dl q1 q0 hr (hq1.trans (by rw [hu])) (hq0.trans (by rw [h21])), Dv.done_m dr dl u21 q0 h21 hq0]
set_option maxRecDepth 100000 in
theorem wten_c (da : BitVec 128) (w0 : World) : Calls Try.prog 55 #[.agg #[.int .u64 ((Wd.hi da).toNat), .int .u64 ((Wd.lo da).toNat)]] w0 fun e w' => e = .returned (.tuple #[.agg #[.int .u64 ((Wd.hi (Wd.ten da)).toNat), .int .u64 ((Wd.lo (Wd.ten da)).toNat)], .int .u8 (da.toNat % 10 : Nat)]) ∧ Below w0.heap.size w0 w' := by
  refine Sx.enter (args := [.agg #[.int .u64 ((Wd.hi da).toNat), .int .u64 ((Wd.lo da).toNat)]]) Try.func55 rfl Try.ntmps55 (Nat.le_of_ble_eq_true rfl) (fun A F => ?_)
  have H := Sx.Own.start w0
  refine Sx.seq (fun K1 hK1 => ?_)
  refine Sx.plain ?_
  refine Sx.sb F (Sx.d_box F H rfl rfl [.int .u64 ((Wd.hi da).toNat), .int .u64 ((Wd.lo da).toNat)] rfl) (Sx.wanted_none rfl _) rfl (by decide) (fun g1 A w F H => ?_)
  refine Sx.sb F (Sx.d_alloc H rfl [.int .u64 ((Wd.hi 0#128).toNat), .int .u64 ((Wd.lo 0#128).toNat)] zero_24) (Sx.wanted_none rfl _) rfl (by decide) (fun g2 A w F H => ?_)
  refine Sx.sv F (Sx.d_move F (Or.inr rfl) rfl) (Sx.wanted_none rfl _) rfl (by decide) (fun A F => ?_)
  refine Sx.nil ?_
  refine hK1 _ _ ?_
  refine Sx.seq (fun K2 hK2 => ?_)
  have F := Sx.Fr.to F (kv' := [(0, .agg #[.int .u64 ((Wd.hi da).toNat), .int .u64 ((Wd.lo da).toNat)]), (1, .pointer (some ⟨g1, 0, none⟩)), (2, .pointer (some ⟨g2, 0, none⟩)), (3, .int .u8 0)]) ⟨rfl, rfl, rfl, rfl, trivial⟩
  refine Sx.drawn F (by kernel_rfl) (by kernel_rfl) (by kernel_rfl) [some (.pointer (some ⟨g1, 0, none⟩)), some (.int .u64 ((Wd.hi da).toNat)), some (.int .u64 (((Wd.hi da) / 10#64).toNat)), some (.pointer (some ⟨g1, 0, none⟩)), some (.int .u64 ((Wd.hi da).toNat)), some (.int .u64 (((Wd.hi da) % 10#64).toNat)), some (.int .u64 (((Wd.hi da) / 10#64).toNat)), some (.int .u64 (((Wd.hi da) % 10#64).toNat))] (fun L A w => Sx.Own w0 w [(true, g2, [.int .u64 ((Wd.hi 0#128).toNat), .int .u64 ((Wd.lo 0#128).toNat)]), (true, g1, [.int .u64 ((Wd.hi da).toNat), .int .u64 ((Wd.lo da).toNat)])] []) H.drew ?_ ?_
  · refine ⟨?_, ?_, ?_, ?_, ?_, ?_, ?_, ?_, trivial⟩
    · show Sx.StepAt _ _ _ _ _ _ _ 0
      intro L A w up hun hd F H
      have F := Sx.Fr.to F (kv' := [(1, .pointer (some ⟨g1, 0, none⟩))]) ⟨rfl, trivial⟩
      refine Sx.step_on rfl (Sx.d_faddr (v := .pointer (some ⟨g1, 0, none⟩)) F rfl rfl (fa_24_0 _ 0 _)) ?_
      rintro xv w' ⟨hx, rfl⟩
      exact ⟨(fun cv hc => hx.trans (Option.some.inj (Option.some.inj hc))), H⟩
    · show Sx.StepAt _ _ _ _ _ _ _ 1
      intro L A w up hun hd F H
      have F := Sx.Fr.to F (kv' := [(7, .pointer (some ⟨g1, 0, none⟩))]) ⟨rfl, trivial⟩
      refine Sx.step_on rfl (Sx.d_load1 (i := 1) (v := .int .u64 ((Wd.hi da).toNat)) one_22 F H rfl rfl rfl rfl) ?_
      rintro xv w' ⟨hx, rfl⟩
      exact ⟨(fun cv hc => hx.trans (Option.some.inj (Option.some.inj hc))), H⟩
    · show Sx.StepAt _ _ _ _ _ _ _ 2
      intro L A w up hun hd F H
      have F := Sx.Fr.to F (kv' := [(8, .int .u64 ((Wd.hi da).toNat))]) ⟨rfl, trivial⟩
      refine Sx.step_on rfl (Sx.d_bin (v := .int .u64 (((Wd.hi da) / 10#64).toNat)) F rfl rfl rfl (Sx.i_quo64 (Wd.hi da) 10#64 (by decide))) ?_
      rintro xv w' ⟨hx, rfl⟩
      exact ⟨(fun cv hc => hx.trans (Option.some.inj (Option.some.inj hc))), H⟩
    · show Sx.StepAt _ _ _ _ _ _ _ 3
      intro L A w up hun hd F H
      have F := Sx.Fr.to F (kv' := [(1, .pointer (some ⟨g1, 0, none⟩))]) ⟨rfl, trivial⟩
      refine Sx.step_on rfl (Sx.d_faddr (v := .pointer (some ⟨g1, 0, none⟩)) F rfl rfl (fa_24_0 _ 0 _)) ?_
      rintro xv w' ⟨hx, rfl⟩
      exact ⟨(fun cv hc => hx.trans (Option.some.inj (Option.some.inj hc))), H⟩
    · show Sx.StepAt _ _ _ _ _ _ _ 4
      intro L A w up hun hd F H
      have F := Sx.Fr.to F (kv' := [(10, .pointer (some ⟨g1, 0, none⟩))]) ⟨rfl, trivial⟩
      refine Sx.step_on rfl (Sx.d_load1 (i := 1) (v := .int .u64 ((Wd.hi da).toNat)) one_22 F H rfl rfl rfl rfl) ?_
      rintro xv w' ⟨hx, rfl⟩
      exact ⟨(fun cv hc => hx.trans (Option.some.inj (Option.some.inj hc))), H⟩
    · show Sx.StepAt _ _ _ _ _ _ _ 5
      intro L A w up hun hd F H
      have F := Sx.Fr.to F (kv' := [(11, .int .u64 ((Wd.hi da).toNat))]) ⟨rfl, trivial⟩
      refine Sx.step_on rfl (Sx.d_bin (v := .int .u64 (((Wd.hi da) % 10#64).toNat)) F rfl rfl rfl (Sx.i_rem64 (Wd.hi da) 10#64 (by decide))) ?_
      rintro xv w' ⟨hx, rfl⟩
      exact ⟨(fun cv hc => hx.trans (Option.some.inj (Option.some.inj hc))), H⟩
    · show Sx.StepAt _ _ _ _ _ _ _ 6
      intro L A w up hun hd F H
      have F := Sx.Fr.to F (kv' := [(9, .int .u64 (((Wd.hi da) / 10#64).toNat))]) ⟨rfl, trivial⟩
      refine Sx.step_on rfl (Sx.d_move F (Or.inr rfl) rfl) ?_
      rintro xv w' ⟨hx, rfl⟩
      exact ⟨(fun cv hc => hx.trans (Option.some.inj (Option.some.inj hc))), H⟩
    · show Sx.StepAt _ _ _ _ _ _ _ 7
      intro L A w up hun hd F H
      have F := Sx.Fr.to F (kv' := [(12, .int .u64 (((Wd.hi da) % 10#64).toNat))]) ⟨rfl, trivial⟩
      refine Sx.step_on rfl (Sx.d_move F (Or.inr rfl) rfl) ?_
      rintro xv w' ⟨hx, rfl⟩
      exact ⟨(fun cv hc => hx.trans (Option.some.inj (Option.some.inj hc))), H⟩
  · intro L A w hL F H
    have F := Sx.Fr.to F (kv' := [(1, .pointer (some ⟨g1, 0, none⟩)), (2, .pointer (some ⟨g2, 0, none⟩)), (3, .int .u8 0), (4, .int .u64 (((Wd.hi da) / 10#64).toNat)), (5, .int .u64 (((Wd.hi da) % 10#64).toNat))]) ⟨rfl, rfl, rfl, rfl, rfl, trivial⟩
    refine hK2 _ _ ?_
    refine Sx.seq (fun K3 hK3 => ?_)
    refine Sx.plain ?_
    refine Sx.sv F (Sx.d_move F (Or.inl rfl) rfl) (Sx.wanted_none rfl _) rfl (by decide) (fun A F => ?_)
    refine Sx.sv F (Sx.d_faddr (v := .pointer (some ⟨g1, 1, none⟩)) F rfl rfl (fa_24_1 _ 0 _)) (Sx.wanted_none rfl _) rfl (by decide) (fun A F => ?_)
    refine Sx.sv F (Sx.d_load1 (i := 1) (v := .int .u64 ((Wd.lo da).toNat)) one_22 F H rfl rfl rfl rfl) (Sx.wanted_none rfl _) rfl (by decide) (fun A F => ?_)
    refine Sx.sw F (Sx.d_call (vs := [.int .u64 (((Wd.hi da) % 10#64).toNat), .int .u64 ((Wd.lo da).toNat), .int .u64 10]) (v := .tuple #[.int .u64 ((Dv.q ((Wd.hi da) % 10#64) (Wd.lo da)).toNat), .int .u64 ((Dv.m ((Wd.hi da) % 10#64) (Wd.lo da)).toNat)]) if_70 F H rfl rfl (bdiv_c ((Wd.hi da) % 10#64) (Wd.lo da) (Wd.rest_lt _) _)) (Sx.wanted_none rfl _) rfl (by decide) (fun A w F H => ?_)
    refine Sx.sv F (Sx.d_move F (Or.inl rfl) rfl) (Sx.wanted_none rfl _) rfl (by decide) (fun A F => ?_)
    refine Sx.sv F (Sx.d_extract (v := .int .u64 ((Dv.q ((Wd.hi da) % 10#64) (Wd.lo da)).toNat)) F rfl rfl rfl) (Sx.wanted_none rfl _) rfl (by decide) (fun A F => ?_)
    refine Sx.sv F (Sx.d_extract (v := .int .u64 ((Dv.m ((Wd.hi da) % 10#64) (Wd.lo da)).toNat)) F rfl rfl rfl) (Sx.wanted_none rfl _) rfl (by decide) (fun A F => ?_)
    refine Sx.sv F (Sx.d_move F (Or.inr rfl) rfl) (Sx.wanted_none rfl _) rfl (by decide) (fun A F => ?_)
    refine Sx.sv F (Sx.d_move F (Or.inr rfl) rfl) (Sx.wanted_none rfl _) rfl (by decide) (fun A F => ?_)
    refine Sx.nil ?_
    refine hK3 _ _ ?_
    refine Sx.seq (fun K4 hK4 => ?_)
    refine Sx.plain ?_
    refine Sx.sv F (Sx.d_move F (Or.inl rfl) rfl) (Sx.wanted_none rfl _) rfl (by decide) (fun A F => ?_)
    refine Sx.sv F (Sx.d_move F (Or.inl rfl) rfl) (Sx.wanted_none rfl _) rfl (by decide) (fun A F => ?_)
    refine Sx.sv F (Sx.d_build (qs := #[(0, .int .u64 (((Wd.hi da) / 10#64).toNat)), (1, .int .u64 ((Dv.q ((Wd.hi da) % 10#64) (Wd.lo da)).toNat))]) (v := .agg #[.int .u64 ((Wd.hi (Wd.mk ((Wd.hi da) / 10#64) (Dv.q ((Wd.hi da) % 10#64) (Wd.lo da)))).toNat), .int .u64 ((Wd.lo (Wd.mk ((Wd.hi da) / 10#64) (Dv.q ((Wd.hi da) % 10#64) (Wd.lo da)))).toNat)]) F rfl rfl (by rw [Wd.hi_mk, Wd.lo_mk]; kernel_rfl)) (Sx.wanted_none rfl _) rfl (by decide) (fun A F => ?_)
    refine Sx.sv F (Sx.d_move F (Or.inl rfl) rfl) (Sx.wanted_none rfl _) rfl (by decide) (fun A F => ?_)
    refine Sx.sv F (Sx.d_conv (v := .int .u8 (da.toNat % 10 : Nat)) F rfl rfl (Sx.c_u64_u8 _ _ (Wd.ten_digit da))) (Sx.wanted_none rfl _) rfl (by decide) (fun A F => ?_)
    refine Sx.ss F (Sx.d_store (i := 0) (xs := [.int .u64 ((Wd.hi (Wd.mk ((Wd.hi da) / 10#64) (Dv.q ((Wd.hi da) % 10#64) (Wd.lo da)))).toNat), .int .u64 ((Wd.lo (Wd.mk ((Wd.hi da) / 10#64) (Dv.q ((Wd.hi da) % 10#64) (Wd.lo da)))).toNat)]) (us := [.int .u64 ((Wd.hi (Wd.mk ((Wd.hi da) / 10#64) (Dv.q ((Wd.hi da) % 10#64) (Wd.lo da)))).toNat), .int .u64 ((Wd.lo (Wd.mk ((Wd.hi da) / 10#64) (Dv.q ((Wd.hi da) % 10#64) (Wd.lo da)))).toNat)]) sz_24 F H rfl rfl rfl rfl rfl rfl rfl (Nat.le_of_ble_eq_true rfl) rfl) (Sx.wanted_none rfl _) rfl (fun A w F (H : Sx.Own w0 _ [(true, g2, [.int .u64 ((Wd.hi (Wd.mk ((Wd.hi da) / 10#64) (Dv.q ((Wd.hi da) % 10#64) (Wd.lo da)))).toNat), .int .u64 ((Wd.lo (Wd.mk ((Wd.hi da) / 10#64) (Dv.q ((Wd.hi da) % 10#64) (Wd.lo da)))).toNat)]), (true, g1, [.int .u64 ((Wd.hi da).toNat), .int .u64 ((Wd.lo da).toNat)])] []) => ?_)
    refine Sx.sv F (Sx.d_move F (Or.inr rfl) rfl) (Sx.wanted_none rfl _) rfl (by decide) (fun A F => ?_)
    refine Sx.nil ?_
    refine hK4 _ _ ?_
    refine wp_ret ?_
    try dsimp only [Exit.then, Exit.inBlock, Exit.jump]
    refine Sx.ret2 F Try.results55 (Sx.res_row (i := 0) (xs := [.int .u64 ((Wd.hi (Wd.mk ((Wd.hi da) / 10#64) (Dv.q ((Wd.hi da) % 10#64) (Wd.lo da)))).toNat), .int .u64 ((Wd.lo (Wd.mk ((Wd.hi da) / 10#64) (Dv.q ((Wd.hi da) % 10#64) (Wd.lo da)))).toNat)]) rw_24 F H rfl rfl rfl rfl) (Sx.res_tmp (v := .int .u8 (da.toNat % 10 : Nat)) F rfl) ⟨?_, H.below⟩
    rw [Wd.ten_mk]
end Go.Proofs.Ytpbdffmgendboab
