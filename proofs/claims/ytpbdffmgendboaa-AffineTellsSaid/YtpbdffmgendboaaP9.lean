/- The reference's Len; At, Then, Power of affine walked. -/
import Derived.Test.YtpbdffmgendboaaSl4
import Derived.Test.YtpbdffmgendboaaLs
import Derived.Test.YtpbdffmgendboaaR1M
import Derived.Test.YtpbdffmgendboaaR1S
namespace Go.Proofs.Ytpbdffmgendboaa
open Go Go.RowKit
theorem Bi.then0 (pa pc qa qc : BitVec 128) : qa * (pa * 0#128 + pc) + qc = qa * pc + qc := by rw [BitVec.mul_zero, BitVec.zero_add]
theorem Bi.then1 (pa pc qa qc : BitVec 128) : qa * (pa * 1#128 + pc) + qc - (qa * (pa * 0#128 + pc) + qc) = qa * pa := by
  rw [BitVec.mul_one, BitVec.mul_zero, BitVec.zero_add, BitVec.mul_add, BitVec.add_assoc]
  exact BitVec.add_sub_cancel _ _
set_option maxRecDepth 100000 in
theorem rlen_c (x : BitVec 128) (w0 : World) : Calls Try.prog 66 #[.agg #[.int .u64 ((Wd.hi x).toNat), .int .u64 ((Wd.lo x).toNat)]] w0 fun e w' => e = .returned (.int .i64 (Bi.len x)) ∧ Below w0.heap.size w0 w' := by
  refine Sx.enter (args := [.agg #[.int .u64 ((Wd.hi x).toNat), .int .u64 ((Wd.lo x).toNat)]]) Try.func66 rfl Try.ntmps66 (Nat.le_of_ble_eq_true rfl) (fun A F => ?_)
  have H := Sx.Own.start w0
  refine Sx.seq (fun K1 hK1 => ?_)
  refine Sx.plain ?_
  refine Sx.sb F (Sx.d_box F H rfl rfl [.int .u64 ((Wd.hi x).toNat), .int .u64 ((Wd.lo x).toNat)] rfl) (Sx.wanted_none rfl _) rfl (by decide) (fun g1 A w F H => ?_)
  refine Sx.sv F (Sx.d_move F (Or.inr rfl) rfl) (Sx.wanted_none rfl _) rfl (by decide) (fun A F => ?_)
  refine Sx.nil ?_
  refine hK1 _ _ ?_
  refine Sx.seq (fun K2 hK2 => ?_)
  refine Sx.plain ?_
  refine Sx.sv F (Sx.d_move F (Or.inr rfl) rfl) (Sx.wanted_none rfl _) rfl (by decide) (fun A F => ?_)
  refine Sx.nil ?_
  refine hK2 _ _ ?_
  refine Sx.seq (fun K3 hK3 => ?_)
  refine Sx.plain ?_
  refine Sx.sv F (Sx.d_load (i := 0) (xs := [.int .u64 ((Wd.hi x).toNat), .int .u64 ((Wd.lo x).toNat)]) rw_31 F H rfl rfl rfl rfl rfl) (Sx.wanted_none rfl _) rfl (by decide) (fun A F => ?_)
  refine Sx.sr (mk := fun v => v) F (Sx.d_callR (vs := [.agg #[.int .u64 ((Wd.hi x).toNat), .int .u64 ((Wd.lo x).toNat)]]) (mk := fun v => v) if_65 F H rfl rfl (rlist_c x _)) (Sx.wanted_none rfl _) rfl (by decide) (fun v1 A w F (H : Sx.Own w0 _ [(true, g1, [.int .u64 ((Wd.hi x).toNat), .int .u64 ((Wd.lo x).toNat)])] [⟨true, v1, 3, 1, 128, (Bi.bis (BitVec.getLsbD x) 128)⟩]) => ?_)
  refine Sx.sv F (Sx.d_move F (Or.inr rfl) rfl) (Sx.wanted_none rfl _) rfl (by decide) (fun A F => ?_)
  refine Sx.nil ?_
  refine hK3 _ _ ?_
  refine Sx.seq (fun K4 hK4 => ?_)
  refine Sx.seq (fun K5 hK5 => ?_)
  refine Sx.plain ?_
  refine Sx.sv F (Sx.d_move F (Or.inr rfl) rfl) (Sx.wanted_none rfl _) rfl (by decide) (fun A F => ?_)
  refine Sx.nil ?_
  refine hK5 _ _ ?_
  refine wp_block ?_
  obtain ⟨lg, lc, rfl, hc1, hc2⟩ := H.open (i := 0) rfl (by omega)
  refine Sx.loop (fun q A w => ∃ i : Nat, q = 128 - i ∧ i ≤ 128 ∧ Sx.Fr 20 A [(4, .slice (some ⟨lg, 0, none⟩) 128 lc), (3, .int .i64 (Bi.lenN x.getLsbD i)), (5, .int .i64 i)] ∧ Sx.Own w0 w [(true, g1, [.int .u64 ((Wd.hi x).toNat), .int .u64 ((Wd.lo x).toNat)])] [⟨true, .slice (some ⟨lg, 0, none⟩) 128 lc, 3, 1, 128, (Bi.bis (BitVec.getLsbD x) 128)⟩]) 128 ⟨0, rfl, Nat.zero_le _, F.to ⟨rfl, rfl, rfl, trivial⟩, H⟩ ?_
  rintro q A w ⟨i, rfl, hi, F, H⟩
  by_cases hlt : i < 128
  · have hn := Bi.lenN_le x.getLsbD i
    cases hb : x.getLsbD i
    · skip
      refine Sx.seq (fun K6 hK6 => ?_)
      refine Sx.seq (fun K7 hK7 => ?_)
      refine Sx.plain ?_
      refine Sx.sv F (Sx.d_move F (Or.inl rfl) rfl) (Sx.wanted_none rfl _) rfl (by decide) (fun A F => ?_)
      refine Sx.sv F (Sx.d_bin (v := .bool true) F rfl rfl rfl (Sx.i_lt (decide_eq_true (by omega)))) (Sx.wanted_none rfl _) rfl (by decide) (fun A F => ?_)
      refine Sx.nil ?_
      refine hK7 _ _ ?_
      refine Sx.condT F rfl ?_
      refine wp_skip ?_
      refine hK6 _ _ ?_
      refine Sx.seq (fun K8 hK8 => ?_)
      refine wp_block ?_
      refine Sx.seq (fun K9 hK9 => ?_)
      refine Sx.plain ?_
      refine Sx.sv F (Sx.d_move F (Or.inl rfl) rfl) (Sx.wanted_none rfl _) rfl (by decide) (fun A F => ?_)
      refine Sx.sv F (Sx.d_move F (Or.inl rfl) rfl) (Sx.wanted_none rfl _) rfl (by decide) (fun A F => ?_)
      refine Sx.sv F (Sx.d_ixR (k := i) el_110 F rfl rfl rfl (rfl) (by omega)) (Sx.wanted_none rfl _) rfl (by decide) (fun A F => ?_)
      refine Sx.sv F (Sx.d_loadR (i := 0) (v := .int .i64 ((x.getLsbD i).toNat)) one_3 F H rfl rfl rfl (Bi.at_ _ _ _ (by omega))) (Sx.wanted_none rfl _) rfl (by decide) (fun A F => ?_)
      refine Sx.sv F (Sx.d_bin (v := .bool false) F rfl rfl rfl (Sx.i_eq (by rw [hb]; rfl))) (Sx.wanted_none rfl _) rfl (by decide) (fun A F => ?_)
      refine Sx.nil ?_
      refine hK9 _ _ ?_
      refine Sx.condF F rfl ?_
      refine wp_skip ?_
      refine hK8 _ _ ?_
      refine Sx.plain ?_
      refine Sx.sv F (Sx.d_move F (Or.inl rfl) rfl) (Sx.wanted_none rfl _) rfl (by decide) (fun A F => ?_)
      refine Sx.sv F (Sx.d_bin (v := .int .i64 (i + 1 : Nat)) F rfl rfl rfl (Sx.i_addN rfl (Sx.in_i64 _ (by omega)))) (Sx.wanted_none rfl _) rfl (by decide) (fun A F => ?_)
      refine Sx.sv F (Sx.d_move F (Or.inr rfl) rfl) (Sx.wanted_none rfl _) rfl (by decide) (fun A F => ?_)
      refine Sx.nil ?_
      try dsimp only [Exit.then]
      refine ⟨128 - (i + 1), by omega, i + 1, rfl, by omega, ?_, H⟩
      have e : Bi.lenN x.getLsbD (i + 1) = Bi.lenN x.getLsbD i := by show (if x.getLsbD i = true then i + 1 else Bi.lenN x.getLsbD i) = _; rw [hb]; rfl
      rw [e]; exact F.to ⟨rfl, rfl, rfl, trivial⟩
    · skip
      refine Sx.seq (fun K10 hK10 => ?_)
      refine Sx.seq (fun K11 hK11 => ?_)
      refine Sx.plain ?_
      refine Sx.sv F (Sx.d_move F (Or.inl rfl) rfl) (Sx.wanted_none rfl _) rfl (by decide) (fun A F => ?_)
      refine Sx.sv F (Sx.d_bin (v := .bool true) F rfl rfl rfl (Sx.i_lt (decide_eq_true (by omega)))) (Sx.wanted_none rfl _) rfl (by decide) (fun A F => ?_)
      refine Sx.nil ?_
      refine hK11 _ _ ?_
      refine Sx.condT F rfl ?_
      refine wp_skip ?_
      refine hK10 _ _ ?_
      refine Sx.seq (fun K12 hK12 => ?_)
      refine wp_block ?_
      refine Sx.seq (fun K13 hK13 => ?_)
      refine Sx.plain ?_
      refine Sx.sv F (Sx.d_move F (Or.inl rfl) rfl) (Sx.wanted_none rfl _) rfl (by decide) (fun A F => ?_)
      refine Sx.sv F (Sx.d_move F (Or.inl rfl) rfl) (Sx.wanted_none rfl _) rfl (by decide) (fun A F => ?_)
      refine Sx.sv F (Sx.d_ixR (k := i) el_110 F rfl rfl rfl (rfl) (by omega)) (Sx.wanted_none rfl _) rfl (by decide) (fun A F => ?_)
      refine Sx.sv F (Sx.d_loadR (i := 0) (v := .int .i64 ((x.getLsbD i).toNat)) one_3 F H rfl rfl rfl (Bi.at_ _ _ _ (by omega))) (Sx.wanted_none rfl _) rfl (by decide) (fun A F => ?_)
      refine Sx.sv F (Sx.d_bin (v := .bool true) F rfl rfl rfl (Sx.i_eq (by rw [hb]; rfl))) (Sx.wanted_none rfl _) rfl (by decide) (fun A F => ?_)
      refine Sx.nil ?_
      refine hK13 _ _ ?_
      refine Sx.condT F rfl ?_
      refine Sx.plain ?_
      refine Sx.sv F (Sx.d_move F (Or.inl rfl) rfl) (Sx.wanted_none rfl _) rfl (by decide) (fun A F => ?_)
      refine Sx.sv F (Sx.d_bin (v := .int .i64 (i + 1 : Nat)) F rfl rfl rfl (Sx.i_addN rfl (Sx.in_i64 _ (by omega)))) (Sx.wanted_none rfl _) rfl (by decide) (fun A F => ?_)
      refine Sx.sv F (Sx.d_move F (Or.inr rfl) rfl) (Sx.wanted_none rfl _) rfl (by decide) (fun A F => ?_)
      refine Sx.nil ?_
      refine hK12 _ _ ?_
      refine Sx.plain ?_
      refine Sx.sv F (Sx.d_move F (Or.inl rfl) rfl) (Sx.wanted_none rfl _) rfl (by decide) (fun A F => ?_)
      refine Sx.sv F (Sx.d_bin (v := .int .i64 (i + 1 : Nat)) F rfl rfl rfl (Sx.i_addN rfl (Sx.in_i64 _ (by omega)))) (Sx.wanted_none rfl _) rfl (by decide) (fun A F => ?_)
      refine Sx.sv F (Sx.d_move F (Or.inr rfl) rfl) (Sx.wanted_none rfl _) rfl (by decide) (fun A F => ?_)
      refine Sx.nil ?_
      try dsimp only [Exit.then]
      refine ⟨128 - (i + 1), by omega, i + 1, rfl, by omega, ?_, H⟩
      have e : Bi.lenN x.getLsbD (i + 1) = i + 1 := by show (if x.getLsbD i = true then i + 1 else Bi.lenN x.getLsbD i) = _; rw [hb]; rfl
      rw [e]; exact F.to ⟨rfl, rfl, rfl, trivial⟩
  · obtain rfl : i = 128 := by omega
    refine Sx.seq (fun K14 hK14 => ?_)
    refine Sx.seq (fun K15 hK15 => ?_)
    refine Sx.plain ?_
    refine Sx.sv F (Sx.d_move F (Or.inl rfl) rfl) (Sx.wanted_none rfl _) rfl (by decide) (fun A F => ?_)
    refine Sx.sv F (Sx.d_bin (v := .bool false) F rfl rfl rfl (Sx.i_lt (by decide))) (Sx.wanted_none rfl _) rfl (by decide) (fun A F => ?_)
    refine Sx.nil ?_
    refine hK15 _ _ ?_
    refine Sx.condF F rfl ?_
    refine wp_exit ?_
    try dsimp only [Exit.then, Exit.jump]
    refine Sx.exit_here ?_
    refine hK4 _ _ ?_
    refine Sx.seq (fun K16 hK16 => ?_)
    refine Sx.plain ?_
    refine Sx.sv F (Sx.d_move F (Or.inl rfl) rfl) (Sx.wanted_none rfl _) rfl (by decide) (fun A F => ?_)
    refine Sx.sv F (Sx.d_move F (Or.inr rfl) rfl) (Sx.wanted_none rfl _) rfl (by decide) (fun A F => ?_)
    refine Sx.nil ?_
    refine hK16 _ _ ?_
    refine wp_ret ?_
    try dsimp only [Exit.then, Exit.inBlock, Exit.jump]
    refine Sx.ret1 F Try.results66 (Sx.res_tmp (v := .int .i64 (Bi.lenN x.getLsbD 128)) F rfl) ⟨?_, H.below⟩
    rfl
set_option maxRecDepth 100000 in
theorem rat9_c (pa pc x : BitVec 128) (w0 : World) : Calls Try.prog 22 #[.agg #[.int .u64 ((Wd.hi pa).toNat), .int .u64 ((Wd.lo pa).toNat), .int .u64 ((Wd.hi pc).toNat), .int .u64 ((Wd.lo pc).toNat)], .agg #[.int .u64 ((Wd.hi x).toNat), .int .u64 ((Wd.lo x).toNat)]] w0 fun e w' => e = .returned (.agg #[.int .u64 ((Wd.hi (pa * x + pc)).toNat), .int .u64 ((Wd.lo (pa * x + pc)).toNat)]) ∧ Below w0.heap.size w0 w' := by
  refine Sx.enter (args := [.agg #[.int .u64 ((Wd.hi pa).toNat), .int .u64 ((Wd.lo pa).toNat), .int .u64 ((Wd.hi pc).toNat), .int .u64 ((Wd.lo pc).toNat)], .agg #[.int .u64 ((Wd.hi x).toNat), .int .u64 ((Wd.lo x).toNat)]]) Try.func22 rfl Try.ntmps22 (Nat.le_of_ble_eq_true rfl) (fun A F => ?_)
  have H := Sx.Own.start w0
  refine Sx.seq (fun K1 hK1 => ?_)
  refine Sx.plain ?_
  refine Sx.sb F (Sx.d_box F H rfl rfl [.int .u64 ((Wd.hi pa).toNat), .int .u64 ((Wd.lo pa).toNat), .int .u64 ((Wd.hi pc).toNat), .int .u64 ((Wd.lo pc).toNat)] rfl) (Sx.wanted_none rfl _) rfl (by decide) (fun g1 A w F H => ?_)
  refine Sx.sb F (Sx.d_box F H rfl rfl [.int .u64 ((Wd.hi x).toNat), .int .u64 ((Wd.lo x).toNat)] rfl) (Sx.wanted_none rfl _) rfl (by decide) (fun g2 A w F H => ?_)
  refine Sx.sb F (Sx.d_alloc H rfl [.int .u64 ((Wd.hi 0#128).toNat), .int .u64 ((Wd.lo 0#128).toNat)] zero_31) (Sx.wanted_none rfl _) rfl (by decide) (fun g3 A w F H => ?_)
  refine Sx.nil ?_
  refine hK1 _ _ ?_
  refine Sx.seq (fun K2 hK2 => ?_)
  have F := Sx.Fr.to F (kv' := [(0, .agg #[.int .u64 ((Wd.hi pa).toNat), .int .u64 ((Wd.lo pa).toNat), .int .u64 ((Wd.hi pc).toNat), .int .u64 ((Wd.lo pc).toNat)]), (1, .agg #[.int .u64 ((Wd.hi x).toNat), .int .u64 ((Wd.lo x).toNat)]), (2, .pointer (some ⟨g1, 0, none⟩)), (3, .pointer (some ⟨g2, 0, none⟩)), (4, .pointer (some ⟨g3, 0, none⟩))]) ⟨rfl, rfl, rfl, rfl, rfl, trivial⟩
  refine Sx.drawn F (by kernel_rfl) (by kernel_rfl) (by kernel_rfl) [some (.pointer (some ⟨g1, 0, none⟩)), some (.agg #[.int .u64 ((Wd.hi pa).toNat), .int .u64 ((Wd.lo pa).toNat)]), some (.agg #[.int .u64 ((Wd.hi x).toNat), .int .u64 ((Wd.lo x).toNat)]), some (.agg #[.int .u64 ((Wd.hi (pa * x)).toNat), .int .u64 ((Wd.lo (pa * x)).toNat)]), some (.pointer (some ⟨g1, 2, none⟩)), some (.agg #[.int .u64 ((Wd.hi pc).toNat), .int .u64 ((Wd.lo pc).toNat)]), some (.tuple #[.agg #[.int .u64 ((Wd.hi ((pa * x) + pc)).toNat), .int .u64 ((Wd.lo ((pa * x) + pc)).toNat)], .bool (Wd.over (pa * x) pc)]), some (.tuple #[.agg #[.int .u64 ((Wd.hi ((pa * x) + pc)).toNat), .int .u64 ((Wd.lo ((pa * x) + pc)).toNat)], .bool (Wd.over (pa * x) pc)]), some (.agg #[.int .u64 ((Wd.hi ((pa * x) + pc)).toNat), .int .u64 ((Wd.lo ((pa * x) + pc)).toNat)]), some (.bool (Wd.over (pa * x) pc)), none, none, some (.bool (Wd.over (pa * x) pc))] (fun L A w => ∃ g4 : Nat, (L 10 = true → A.eval (.tmp 5) = .pointer (some ⟨g4, 0, none⟩)) ∧ Sx.Own w0 w [(true, g3, [.int .u64 ((Wd.hi 0#128).toNat), .int .u64 ((Wd.lo 0#128).toNat)]), (true, g2, [.int .u64 ((Wd.hi x).toNat), .int .u64 ((Wd.lo x).toNat)]), (true, g1, [.int .u64 ((Wd.hi pa).toNat), .int .u64 ((Wd.lo pa).toNat), .int .u64 ((Wd.hi pc).toNat), .int .u64 ((Wd.lo pc).toNat)]), (L 10, g4, (cond (L 11) [.int .u64 ((Wd.hi ((pa * x) + pc)).toNat), .int .u64 ((Wd.lo ((pa * x) + pc)).toNat)] [.int .u64 ((Wd.hi 0#128).toNat), .int .u64 ((Wd.lo 0#128).toNat)]))] []) ⟨0, (fun h => by cases h), H.drew.pad [(false, 0, [.int .u64 ((Wd.hi 0#128).toNat), .int .u64 ((Wd.lo 0#128).toNat)])] rfl [] rfl⟩ ?_ ?_
  · refine ⟨?_, ?_, ?_, ?_, ?_, ?_, ?_, ?_, ?_, ?_, ?_, ?_, ?_, trivial⟩
    · show Sx.StepAt _ _ _ _ _ _ _ 0
      intro L A w up hun hd F ⟨g4, p10, H⟩
      have f11 : L 11 = false := up 11 0 rfl hun
      rw [f11] at H
      have F := Sx.Fr.to F (kv' := [(2, .pointer (some ⟨g1, 0, none⟩))]) ⟨rfl, trivial⟩
      refine Sx.step_on rfl (Sx.d_faddr (v := .pointer (some ⟨g1, 0, none⟩)) F rfl rfl (fa_37_0 _ 0 _)) ?_
      rintro xv w' ⟨hx, rfl⟩
      exact ⟨(fun cv hc => hx.trans (Option.some.inj (Option.some.inj hc))), ⟨g4, (fun h => (Sx.put_ne rfl _).trans (p10 h)), (by show Sx.Own _ _ _ _; rw [show Inv.add L 0 11 = false from f11]; exact H)⟩⟩
    · show Sx.StepAt _ _ _ _ _ _ _ 1
      intro L A w up hun hd F ⟨g4, p10, H⟩
      have f11 : L 11 = false := up 11 1 rfl hun
      rw [f11] at H
      have F := Sx.Fr.to F (kv' := [(8, .pointer (some ⟨g1, 0, none⟩))]) ⟨rfl, trivial⟩
      refine Sx.step_on rfl (Sx.d_load (i := 2) (xs := [.int .u64 ((Wd.hi pa).toNat), .int .u64 ((Wd.lo pa).toNat)]) rw_31 F H rfl rfl rfl rfl rfl) ?_
      rintro xv w' ⟨hx, rfl⟩
      exact ⟨(fun cv hc => hx.trans (Option.some.inj (Option.some.inj hc))), ⟨g4, (fun h => (Sx.put_ne rfl _).trans (p10 h)), (by show Sx.Own _ _ _ _; rw [show Inv.add L 1 11 = false from f11]; exact H)⟩⟩
    · show Sx.StepAt _ _ _ _ _ _ _ 2
      intro L A w up hun hd F ⟨g4, p10, H⟩
      have f11 : L 11 = false := up 11 2 rfl hun
      rw [f11] at H
      have F := Sx.Fr.to F (kv' := [(3, .pointer (some ⟨g2, 0, none⟩))]) ⟨rfl, trivial⟩
      refine Sx.step_on rfl (Sx.d_load (i := 1) (xs := [.int .u64 ((Wd.hi x).toNat), .int .u64 ((Wd.lo x).toNat)]) rw_31 F H rfl rfl rfl rfl rfl) ?_
      rintro xv w' ⟨hx, rfl⟩
      exact ⟨(fun cv hc => hx.trans (Option.some.inj (Option.some.inj hc))), ⟨g4, (fun h => (Sx.put_ne rfl _).trans (p10 h)), (by show Sx.Own _ _ _ _; rw [show Inv.add L 2 11 = false from f11]; exact H)⟩⟩
    · show Sx.StepAt _ _ _ _ _ _ _ 3
      intro L A w up hun hd F ⟨g4, p10, H⟩
      have f11 : L 11 = false := up 11 3 rfl hun
      rw [f11] at H
      have F := Sx.Fr.to F (kv' := [(9, .agg #[.int .u64 ((Wd.hi pa).toNat), .int .u64 ((Wd.lo pa).toNat)]), (10, .agg #[.int .u64 ((Wd.hi x).toNat), .int .u64 ((Wd.lo x).toNat)])]) ⟨rfl, rfl, trivial⟩
      refine Sx.step_on rfl (Sx.d_call (vs := [.agg #[.int .u64 ((Wd.hi pa).toNat), .int .u64 ((Wd.lo pa).toNat)], .agg #[.int .u64 ((Wd.hi x).toNat), .int .u64 ((Wd.lo x).toNat)]]) (v := .agg #[.int .u64 ((Wd.hi (pa * x)).toNat), .int .u64 ((Wd.lo (pa * x)).toNat)]) if_59 F H rfl rfl (rmul_c pa x _)) ?_
      rintro xv w' ⟨hx, H⟩
      exact ⟨(fun cv hc => hx.trans (Option.some.inj (Option.some.inj hc))), ⟨g4, (fun h => (Sx.put_ne rfl _).trans (p10 h)), (by show Sx.Own _ _ _ _; rw [show Inv.add L 3 11 = false from f11]; exact H)⟩⟩
    · show Sx.StepAt _ _ _ _ _ _ _ 4
      intro L A w up hun hd F ⟨g4, p10, H⟩
      have f11 : L 11 = false := up 11 4 rfl hun
      rw [f11] at H
      have F := Sx.Fr.to F (kv' := [(2, .pointer (some ⟨g1, 0, none⟩))]) ⟨rfl, trivial⟩
      refine Sx.step_on rfl (Sx.d_faddr (v := .pointer (some ⟨g1, 2, none⟩)) F rfl rfl (fa_37_1 _ 0 _)) ?_
      rintro xv w' ⟨hx, rfl⟩
      exact ⟨(fun cv hc => hx.trans (Option.some.inj (Option.some.inj hc))), ⟨g4, (fun h => (Sx.put_ne rfl _).trans (p10 h)), (by show Sx.Own _ _ _ _; rw [show Inv.add L 4 11 = false from f11]; exact H)⟩⟩
    · show Sx.StepAt _ _ _ _ _ _ _ 5
      intro L A w up hun hd F ⟨g4, p10, H⟩
      have f11 : L 11 = false := up 11 5 rfl hun
      rw [f11] at H
      have F := Sx.Fr.to F (kv' := [(12, .pointer (some ⟨g1, 2, none⟩))]) ⟨rfl, trivial⟩
      refine Sx.step_on rfl (Sx.d_load (i := 2) (xs := [.int .u64 ((Wd.hi pc).toNat), .int .u64 ((Wd.lo pc).toNat)]) rw_31 F H rfl rfl rfl rfl rfl) ?_
      rintro xv w' ⟨hx, rfl⟩
      exact ⟨(fun cv hc => hx.trans (Option.some.inj (Option.some.inj hc))), ⟨g4, (fun h => (Sx.put_ne rfl _).trans (p10 h)), (by show Sx.Own _ _ _ _; rw [show Inv.add L 5 11 = false from f11]; exact H)⟩⟩
    · show Sx.StepAt _ _ _ _ _ _ _ 6
      intro L A w up hun hd F ⟨g4, p10, H⟩
      have f11 : L 11 = false := up 11 6 rfl hun
      rw [f11] at H
      have F := Sx.Fr.to F (kv' := [(11, .agg #[.int .u64 ((Wd.hi (pa * x)).toNat), .int .u64 ((Wd.lo (pa * x)).toNat)]), (13, .agg #[.int .u64 ((Wd.hi pc).toNat), .int .u64 ((Wd.lo pc).toNat)])]) ⟨rfl, rfl, trivial⟩
      refine Sx.step_on rfl (Sx.d_call (vs := [.agg #[.int .u64 ((Wd.hi (pa * x)).toNat), .int .u64 ((Wd.lo (pa * x)).toNat)], .agg #[.int .u64 ((Wd.hi pc).toNat), .int .u64 ((Wd.lo pc).toNat)]]) (v := .tuple #[.agg #[.int .u64 ((Wd.hi ((pa * x) + pc)).toNat), .int .u64 ((Wd.lo ((pa * x) + pc)).toNat)], .bool (Wd.over (pa * x) pc)]) if_60 F H rfl rfl (radd_c (pa * x) pc _)) ?_
      rintro xv w' ⟨hx, H⟩
      exact ⟨(fun cv hc => hx.trans (Option.some.inj (Option.some.inj hc))), ⟨g4, (fun h => (Sx.put_ne rfl _).trans (p10 h)), (by show Sx.Own _ _ _ _; rw [show Inv.add L 6 11 = false from f11]; exact H)⟩⟩
    · show Sx.StepAt _ _ _ _ _ _ _ 7
      intro L A w up hun hd F ⟨g4, p10, H⟩
      have f11 : L 11 = false := up 11 7 rfl hun
      rw [f11] at H
      have F := Sx.Fr.to F (kv' := [(14, .tuple #[.agg #[.int .u64 ((Wd.hi ((pa * x) + pc)).toNat), .int .u64 ((Wd.lo ((pa * x) + pc)).toNat)], .bool (Wd.over (pa * x) pc)])]) ⟨rfl, trivial⟩
      refine Sx.step_on rfl (Sx.d_move F (Or.inl rfl) rfl) ?_
      rintro xv w' ⟨hx, rfl⟩
      exact ⟨(fun cv hc => hx.trans (Option.some.inj (Option.some.inj hc))), ⟨g4, (fun h => (Sx.put_ne rfl _).trans (p10 h)), (by show Sx.Own _ _ _ _; rw [show Inv.add L 7 11 = false from f11]; exact H)⟩⟩
    · show Sx.StepAt _ _ _ _ _ _ _ 8
      intro L A w up hun hd F ⟨g4, p10, H⟩
      have f11 : L 11 = false := up 11 8 rfl hun
      rw [f11] at H
      have F := Sx.Fr.to F (kv' := [(7, .tuple #[.agg #[.int .u64 ((Wd.hi ((pa * x) + pc)).toNat), .int .u64 ((Wd.lo ((pa * x) + pc)).toNat)], .bool (Wd.over (pa * x) pc)])]) ⟨rfl, trivial⟩
      refine Sx.step_on rfl (Sx.d_extract (v := .agg #[.int .u64 ((Wd.hi ((pa * x) + pc)).toNat), .int .u64 ((Wd.lo ((pa * x) + pc)).toNat)]) F rfl rfl rfl) ?_
      rintro xv w' ⟨hx, rfl⟩
      exact ⟨(fun cv hc => hx.trans (Option.some.inj (Option.some.inj hc))), ⟨g4, (fun h => (Sx.put_ne rfl _).trans (p10 h)), (by show Sx.Own _ _ _ _; rw [show Inv.add L 8 11 = false from f11]; exact H)⟩⟩
    · show Sx.StepAt _ _ _ _ _ _ _ 9
      intro L A w up hun hd F ⟨g4, p10, H⟩
      have F := Sx.Fr.to F (kv' := [(7, .tuple #[.agg #[.int .u64 ((Wd.hi ((pa * x) + pc)).toNat), .int .u64 ((Wd.lo ((pa * x) + pc)).toNat)], .bool (Wd.over (pa * x) pc)])]) ⟨rfl, trivial⟩
      refine Sx.step_on rfl (Sx.d_extract (v := .bool (Wd.over (pa * x) pc)) F rfl rfl rfl) ?_
      rintro xv w' ⟨hx, rfl⟩
      exact ⟨(fun cv hc => hx.trans (Option.some.inj (Option.some.inj hc))), ⟨g4, (fun h => (Sx.put_ne rfl _).trans (p10 h)), H⟩⟩
    · show Sx.StepAt _ _ _ _ _ _ _ 10
      intro L A w up hun hd F ⟨g4, p10, H⟩
      have f10 : L 10 = false := hun
      have f11 : L 11 = false := up 11 10 rfl hun
      rw [f10, f11] at H
      have F := Sx.Fr.to F (kv' := []) trivial
      refine Sx.step_on rfl (Sx.d_alloc_at H rfl 3 [.int .u64 ((Wd.hi 0#128).toNat), .int .u64 ((Wd.lo 0#128).toNat)] zero_31) ?_
      rintro xv w' ⟨g', hx, H⟩
      exact ⟨(fun cv hc => by have h := Option.some.inj hc; cases h), ⟨g', (fun _ => (Sx.put_same F (by decide) _).trans hx), (by show Sx.Own _ _ _ _; rw [show Inv.add L 10 11 = false from f11]; exact H)⟩⟩
    · show Sx.StepAt _ _ _ _ _ _ _ 11
      intro L A w up hun hd F ⟨g4, p10, H⟩
      have t10 : L 10 = true := hd 10 rfl
      have f11 : L 11 = false := hun
      rw [t10, f11] at H
      have F := Sx.Fr.to F (kv' := [(15, .agg #[.int .u64 ((Wd.hi ((pa * x) + pc)).toNat), .int .u64 ((Wd.lo ((pa * x) + pc)).toNat)])]) ⟨rfl, trivial⟩
      have F := Sx.Fr.add F (p10 t10)
      refine Sx.step_on rfl (Sx.d_store (i := 3) (xs := [.int .u64 ((Wd.hi ((pa * x) + pc)).toNat), .int .u64 ((Wd.lo ((pa * x) + pc)).toNat)]) (us := [.int .u64 ((Wd.hi ((pa * x) + pc)).toNat), .int .u64 ((Wd.lo ((pa * x) + pc)).toNat)]) sz_31 F H rfl rfl rfl rfl rfl rfl rfl (Nat.le_of_ble_eq_true rfl) rfl) ?_
      intro xv w' H
      exact ⟨(fun cv hc => by have h := Option.some.inj hc; cases h), ⟨g4, p10, (by show Sx.Own _ _ _ _; rw [show Inv.add L 11 10 = true from t10]; exact H)⟩⟩
    · show Sx.StepAt _ _ _ _ _ _ _ 12
      intro L A w up hun hd F ⟨g4, p10, H⟩
      have t10 : L 10 = true := hd 10 rfl
      have t11 : L 11 = true := hd 11 rfl
      rw [t10, t11] at H
      have F := Sx.Fr.to F (kv' := [(16, .bool (Wd.over (pa * x) pc))]) ⟨rfl, trivial⟩
      have F := Sx.Fr.add F (p10 t10)
      refine Sx.step_on rfl (Sx.d_move F (Or.inr rfl) rfl) ?_
      rintro xv w' ⟨hx, rfl⟩
      exact ⟨(fun cv hc => hx.trans (Option.some.inj (Option.some.inj hc))), ⟨g4, (fun h => (Sx.put_ne rfl _).trans (p10 h)), (by show Sx.Own _ _ _ _; rw [show Inv.add L 12 10 = true from t10, show Inv.add L 12 11 = true from t11]; exact H)⟩⟩
  · intro L A w hL F ⟨g4, p10, H⟩
    have t10 : L 10 = true := hL 10 rfl
    have t11 : L 11 = true := hL 11 rfl
    rw [t10, t11] at H
    have F := Sx.Fr.add F (p10 t10)
    have F := Sx.Fr.to F (kv' := [(0, .agg #[.int .u64 ((Wd.hi pa).toNat), .int .u64 ((Wd.lo pa).toNat), .int .u64 ((Wd.hi pc).toNat), .int .u64 ((Wd.lo pc).toNat)]), (1, .agg #[.int .u64 ((Wd.hi x).toNat), .int .u64 ((Wd.lo x).toNat)]), (4, .pointer (some ⟨g3, 0, none⟩)), (5, .pointer (some ⟨g4, 0, none⟩))]) ⟨rfl, rfl, rfl, rfl, trivial⟩
    refine hK2 _ _ ?_
    refine Sx.seq (fun K3 hK3 => ?_)
    refine Sx.plain ?_
    refine Sx.sv F (Sx.d_load (i := 3) (xs := [.int .u64 ((Wd.hi ((pa * x) + pc)).toNat), .int .u64 ((Wd.lo ((pa * x) + pc)).toNat)]) rw_31 F H rfl rfl rfl rfl rfl) (Sx.wanted_none rfl _) rfl (by decide) (fun A F => ?_)
    refine Sx.ss F (Sx.d_store (i := 0) (xs := [.int .u64 ((Wd.hi ((pa * x) + pc)).toNat), .int .u64 ((Wd.lo ((pa * x) + pc)).toNat)]) (us := [.int .u64 ((Wd.hi ((pa * x) + pc)).toNat), .int .u64 ((Wd.lo ((pa * x) + pc)).toNat)]) sz_31 F H rfl rfl rfl rfl rfl rfl rfl (Nat.le_of_ble_eq_true rfl) rfl) (Sx.wanted_none rfl _) rfl (fun A w F (H : Sx.Own w0 _ [(true, g3, [.int .u64 ((Wd.hi ((pa * x) + pc)).toNat), .int .u64 ((Wd.lo ((pa * x) + pc)).toNat)]), (true, g2, [.int .u64 ((Wd.hi x).toNat), .int .u64 ((Wd.lo x).toNat)]), (true, g1, [.int .u64 ((Wd.hi pa).toNat), .int .u64 ((Wd.lo pa).toNat), .int .u64 ((Wd.hi pc).toNat), .int .u64 ((Wd.lo pc).toNat)]), (true, g4, [.int .u64 ((Wd.hi ((pa * x) + pc)).toNat), .int .u64 ((Wd.lo ((pa * x) + pc)).toNat)])] []) => ?_)
    refine Sx.nil ?_
    refine hK3 _ _ ?_
    refine wp_ret ?_
    try dsimp only [Exit.then, Exit.inBlock, Exit.jump]
    refine Sx.ret1 F Try.results22 (Sx.res_row (i := 0) (xs := [.int .u64 ((Wd.hi ((pa * x) + pc)).toNat), .int .u64 ((Wd.lo ((pa * x) + pc)).toNat)]) rw_31 F H rfl rfl rfl rfl) ⟨?_, H.below⟩
    rfl
set_option maxRecDepth 100000 in
theorem rthen9_c (pa pc qa qc : BitVec 128) (w0 : World) : Calls Try.prog 19 #[.agg #[.int .u64 ((Wd.hi pa).toNat), .int .u64 ((Wd.lo pa).toNat), .int .u64 ((Wd.hi pc).toNat), .int .u64 ((Wd.lo pc).toNat)], .agg #[.int .u64 ((Wd.hi qa).toNat), .int .u64 ((Wd.lo qa).toNat), .int .u64 ((Wd.hi qc).toNat), .int .u64 ((Wd.lo qc).toNat)]] w0 fun e w' => e = .returned (.agg #[.int .u64 ((Wd.hi (qa * pa)).toNat), .int .u64 ((Wd.lo (qa * pa)).toNat), .int .u64 ((Wd.hi (qa * pc + qc)).toNat), .int .u64 ((Wd.lo (qa * pc + qc)).toNat)]) ∧ Below w0.heap.size w0 w' := by
  refine Sx.enter (args := [.agg #[.int .u64 ((Wd.hi pa).toNat), .int .u64 ((Wd.lo pa).toNat), .int .u64 ((Wd.hi pc).toNat), .int .u64 ((Wd.lo pc).toNat)], .agg #[.int .u64 ((Wd.hi qa).toNat), .int .u64 ((Wd.lo qa).toNat), .int .u64 ((Wd.hi qc).toNat), .int .u64 ((Wd.lo qc).toNat)]]) Try.func19 rfl Try.ntmps19 (Nat.le_of_ble_eq_true rfl) (fun A F => ?_)
  have H := Sx.Own.start w0
  refine Sx.seq (fun K1 hK1 => ?_)
  refine Sx.plain ?_
  refine Sx.sb F (Sx.d_box F H rfl rfl [.int .u64 ((Wd.hi pa).toNat), .int .u64 ((Wd.lo pa).toNat), .int .u64 ((Wd.hi pc).toNat), .int .u64 ((Wd.lo pc).toNat)] rfl) (Sx.wanted_none rfl _) rfl (by decide) (fun g1 A w F H => ?_)
  refine Sx.sb F (Sx.d_box F H rfl rfl [.int .u64 ((Wd.hi qa).toNat), .int .u64 ((Wd.lo qa).toNat), .int .u64 ((Wd.hi qc).toNat), .int .u64 ((Wd.lo qc).toNat)] rfl) (Sx.wanted_none rfl _) rfl (by decide) (fun g2 A w F H => ?_)
  refine Sx.sb F (Sx.d_alloc H rfl [.int .u64 ((Wd.hi 0#128).toNat), .int .u64 ((Wd.lo 0#128).toNat), .int .u64 ((Wd.hi 0#128).toNat), .int .u64 ((Wd.lo 0#128).toNat)] zero_37) (Sx.wanted_none rfl _) rfl (by decide) (fun g3 A w F H => ?_)
  refine Sx.nil ?_
  refine hK1 _ _ ?_
  refine Sx.seq (fun K2 hK2 => ?_)
  have F := Sx.Fr.to F (kv' := [(0, .agg #[.int .u64 ((Wd.hi pa).toNat), .int .u64 ((Wd.lo pa).toNat), .int .u64 ((Wd.hi pc).toNat), .int .u64 ((Wd.lo pc).toNat)]), (1, .agg #[.int .u64 ((Wd.hi qa).toNat), .int .u64 ((Wd.lo qa).toNat), .int .u64 ((Wd.hi qc).toNat), .int .u64 ((Wd.lo qc).toNat)]), (2, .pointer (some ⟨g1, 0, none⟩)), (3, .pointer (some ⟨g2, 0, none⟩)), (4, .pointer (some ⟨g3, 0, none⟩))]) ⟨rfl, rfl, rfl, rfl, rfl, trivial⟩
  refine Sx.drawn F (by kernel_rfl) (by kernel_rfl) (by kernel_rfl) [some (.agg #[.int .u64 ((Wd.hi qa).toNat), .int .u64 ((Wd.lo qa).toNat), .int .u64 ((Wd.hi qc).toNat), .int .u64 ((Wd.lo qc).toNat)]), some (.agg #[.int .u64 ((Wd.hi pa).toNat), .int .u64 ((Wd.lo pa).toNat), .int .u64 ((Wd.hi pc).toNat), .int .u64 ((Wd.lo pc).toNat)]), some (.agg #[.int .u64 ((Wd.hi 0#128).toNat), .int .u64 ((Wd.lo 0#128).toNat)]), some (.agg #[.int .u64 ((Wd.hi (pa * 0#128 + pc)).toNat), .int .u64 ((Wd.lo (pa * 0#128 + pc)).toNat)]), some (.agg #[.int .u64 ((Wd.hi (qa * (pa * 0#128 + pc) + qc)).toNat), .int .u64 ((Wd.lo (qa * (pa * 0#128 + pc) + qc)).toNat)]), none, none] (fun L A w => ∃ g4 : Nat, (L 5 = true → A.eval (.tmp 5) = .pointer (some ⟨g4, 0, none⟩)) ∧ Sx.Own w0 w [(true, g3, [.int .u64 ((Wd.hi 0#128).toNat), .int .u64 ((Wd.lo 0#128).toNat), .int .u64 ((Wd.hi 0#128).toNat), .int .u64 ((Wd.lo 0#128).toNat)]), (true, g2, [.int .u64 ((Wd.hi qa).toNat), .int .u64 ((Wd.lo qa).toNat), .int .u64 ((Wd.hi qc).toNat), .int .u64 ((Wd.lo qc).toNat)]), (true, g1, [.int .u64 ((Wd.hi pa).toNat), .int .u64 ((Wd.lo pa).toNat), .int .u64 ((Wd.hi pc).toNat), .int .u64 ((Wd.lo pc).toNat)]), (L 5, g4, (cond (L 6) [.int .u64 ((Wd.hi (qa * (pa * 0#128 + pc) + qc)).toNat), .int .u64 ((Wd.lo (qa * (pa * 0#128 + pc) + qc)).toNat)] [.int .u64 ((Wd.hi 0#128).toNat), .int .u64 ((Wd.lo 0#128).toNat)]))] []) ⟨0, (fun h => by cases h), H.drew.pad [(false, 0, [.int .u64 ((Wd.hi 0#128).toNat), .int .u64 ((Wd.lo 0#128).toNat)])] rfl [] rfl⟩ ?_ ?_
  · refine ⟨?_, ?_, ?_, ?_, ?_, ?_, ?_, trivial⟩
    · show Sx.StepAt _ _ _ _ _ _ _ 0
      intro L A w up hun hd F ⟨g4, p5, H⟩
      have f6 : L 6 = false := up 6 0 rfl hun
      rw [f6] at H
      have F := Sx.Fr.to F (kv' := [(3, .pointer (some ⟨g2, 0, none⟩))]) ⟨rfl, trivial⟩
      refine Sx.step_on rfl (Sx.d_load (i := 1) (xs := [.int .u64 ((Wd.hi qa).toNat), .int .u64 ((Wd.lo qa).toNat), .int .u64 ((Wd.hi qc).toNat), .int .u64 ((Wd.lo qc).toNat)]) rw_37 F H rfl rfl rfl rfl rfl) ?_
      rintro xv w' ⟨hx, rfl⟩
      exact ⟨(fun cv hc => hx.trans (Option.some.inj (Option.some.inj hc))), ⟨g4, (fun h => (Sx.put_ne rfl _).trans (p5 h)), (by show Sx.Own _ _ _ _; rw [show Inv.add L 0 6 = false from f6]; exact H)⟩⟩
    · show Sx.StepAt _ _ _ _ _ _ _ 1
      intro L A w up hun hd F ⟨g4, p5, H⟩
      have f6 : L 6 = false := up 6 1 rfl hun
      rw [f6] at H
      have F := Sx.Fr.to F (kv' := [(2, .pointer (some ⟨g1, 0, none⟩))]) ⟨rfl, trivial⟩
      refine Sx.step_on rfl (Sx.d_load (i := 2) (xs := [.int .u64 ((Wd.hi pa).toNat), .int .u64 ((Wd.lo pa).toNat), .int .u64 ((Wd.hi pc).toNat), .int .u64 ((Wd.lo pc).toNat)]) rw_37 F H rfl rfl rfl rfl rfl) ?_
      rintro xv w' ⟨hx, rfl⟩
      exact ⟨(fun cv hc => hx.trans (Option.some.inj (Option.some.inj hc))), ⟨g4, (fun h => (Sx.put_ne rfl _).trans (p5 h)), (by show Sx.Own _ _ _ _; rw [show Inv.add L 1 6 = false from f6]; exact H)⟩⟩
    · show Sx.StepAt _ _ _ _ _ _ _ 2
      intro L A w up hun hd F ⟨g4, p5, H⟩
      have f6 : L 6 = false := up 6 2 rfl hun
      rw [f6] at H
      have F := Sx.Fr.to F (kv' := []) trivial
      refine Sx.step_on rfl (Sx.d_build (qs := #[]) (v := .agg #[.int .u64 ((Wd.hi 0#128).toNat), .int .u64 ((Wd.lo 0#128).toNat)]) F rfl rfl (by kernel_rfl)) ?_
      rintro xv w' ⟨hx, rfl⟩
      exact ⟨(fun cv hc => hx.trans (Option.some.inj (Option.some.inj hc))), ⟨g4, (fun h => (Sx.put_ne rfl _).trans (p5 h)), (by show Sx.Own _ _ _ _; rw [show Inv.add L 2 6 = false from f6]; exact H)⟩⟩
    · show Sx.StepAt _ _ _ _ _ _ _ 3
      intro L A w up hun hd F ⟨g4, p5, H⟩
      have f6 : L 6 = false := up 6 3 rfl hun
      rw [f6] at H
      have F := Sx.Fr.to F (kv' := [(10, .agg #[.int .u64 ((Wd.hi pa).toNat), .int .u64 ((Wd.lo pa).toNat), .int .u64 ((Wd.hi pc).toNat), .int .u64 ((Wd.lo pc).toNat)]), (11, .agg #[.int .u64 ((Wd.hi 0#128).toNat), .int .u64 ((Wd.lo 0#128).toNat)])]) ⟨rfl, rfl, trivial⟩
      refine Sx.step_on rfl (Sx.d_call (vs := [.agg #[.int .u64 ((Wd.hi pa).toNat), .int .u64 ((Wd.lo pa).toNat), .int .u64 ((Wd.hi pc).toNat), .int .u64 ((Wd.lo pc).toNat)], .agg #[.int .u64 ((Wd.hi 0#128).toNat), .int .u64 ((Wd.lo 0#128).toNat)]]) (v := .agg #[.int .u64 ((Wd.hi (pa * 0#128 + pc)).toNat), .int .u64 ((Wd.lo (pa * 0#128 + pc)).toNat)]) if_22 F H rfl rfl (rat9_c pa pc 0#128 _)) ?_
      rintro xv w' ⟨hx, H⟩
      exact ⟨(fun cv hc => hx.trans (Option.some.inj (Option.some.inj hc))), ⟨g4, (fun h => (Sx.put_ne rfl _).trans (p5 h)), (by show Sx.Own _ _ _ _; rw [show Inv.add L 3 6 = false from f6]; exact H)⟩⟩
    · show Sx.StepAt _ _ _ _ _ _ _ 4
      intro L A w up hun hd F ⟨g4, p5, H⟩
      have f6 : L 6 = false := up 6 4 rfl hun
      rw [f6] at H
      have F := Sx.Fr.to F (kv' := [(9, .agg #[.int .u64 ((Wd.hi qa).toNat), .int .u64 ((Wd.lo qa).toNat), .int .u64 ((Wd.hi qc).toNat), .int .u64 ((Wd.lo qc).toNat)]), (12, .agg #[.int .u64 ((Wd.hi (pa * 0#128 + pc)).toNat), .int .u64 ((Wd.lo (pa * 0#128 + pc)).toNat)])]) ⟨rfl, rfl, trivial⟩
      refine Sx.step_on rfl (Sx.d_call (vs := [.agg #[.int .u64 ((Wd.hi qa).toNat), .int .u64 ((Wd.lo qa).toNat), .int .u64 ((Wd.hi qc).toNat), .int .u64 ((Wd.lo qc).toNat)], .agg #[.int .u64 ((Wd.hi (pa * 0#128 + pc)).toNat), .int .u64 ((Wd.lo (pa * 0#128 + pc)).toNat)]]) (v := .agg #[.int .u64 ((Wd.hi (qa * (pa * 0#128 + pc) + qc)).toNat), .int .u64 ((Wd.lo (qa * (pa * 0#128 + pc) + qc)).toNat)]) if_22 F H rfl rfl (rat9_c qa qc (pa * 0#128 + pc) _)) ?_
      rintro xv w' ⟨hx, H⟩
      exact ⟨(fun cv hc => hx.trans (Option.some.inj (Option.some.inj hc))), ⟨g4, (fun h => (Sx.put_ne rfl _).trans (p5 h)), (by show Sx.Own _ _ _ _; rw [show Inv.add L 4 6 = false from f6]; exact H)⟩⟩
    · show Sx.StepAt _ _ _ _ _ _ _ 5
      intro L A w up hun hd F ⟨g4, p5, H⟩
      have f5 : L 5 = false := hun
      have f6 : L 6 = false := up 6 5 rfl hun
      rw [f5, f6] at H
      have F := Sx.Fr.to F (kv' := []) trivial
      refine Sx.step_on rfl (Sx.d_alloc_at H rfl 3 [.int .u64 ((Wd.hi 0#128).toNat), .int .u64 ((Wd.lo 0#128).toNat)] zero_31) ?_
      rintro xv w' ⟨g', hx, H⟩
      exact ⟨(fun cv hc => by have h := Option.some.inj hc; cases h), ⟨g', (fun _ => (Sx.put_same F (by decide) _).trans hx), (by show Sx.Own _ _ _ _; rw [show Inv.add L 5 6 = false from f6]; exact H)⟩⟩
    · show Sx.StepAt _ _ _ _ _ _ _ 6
      intro L A w up hun hd F ⟨g4, p5, H⟩
      have t5 : L 5 = true := hd 5 rfl
      have f6 : L 6 = false := hun
      rw [t5, f6] at H
      have F := Sx.Fr.to F (kv' := [(13, .agg #[.int .u64 ((Wd.hi (qa * (pa * 0#128 + pc) + qc)).toNat), .int .u64 ((Wd.lo (qa * (pa * 0#128 + pc) + qc)).toNat)])]) ⟨rfl, trivial⟩
      have F := Sx.Fr.add F (p5 t5)
      refine Sx.step_on rfl (Sx.d_store (i := 3) (xs := [.int .u64 ((Wd.hi (qa * (pa * 0#128 + pc) + qc)).toNat), .int .u64 ((Wd.lo (qa * (pa * 0#128 + pc) + qc)).toNat)]) (us := [.int .u64 ((Wd.hi (qa * (pa * 0#128 + pc) + qc)).toNat), .int .u64 ((Wd.lo (qa * (pa * 0#128 + pc) + qc)).toNat)]) sz_31 F H rfl rfl rfl rfl rfl rfl rfl (Nat.le_of_ble_eq_true rfl) rfl) ?_
      intro xv w' H
      exact ⟨(fun cv hc => by have h := Option.some.inj hc; cases h), ⟨g4, p5, (by show Sx.Own _ _ _ _; rw [show Inv.add L 6 5 = true from t5]; exact H)⟩⟩
  · intro L A w hL F ⟨g4, p5, H⟩
    have t5 : L 5 = true := hL 5 rfl
    have t6 : L 6 = true := hL 6 rfl
    rw [t5, t6] at H
    have F := Sx.Fr.add F (p5 t5)
    have F := Sx.Fr.to F (kv' := [(0, .agg #[.int .u64 ((Wd.hi pa).toNat), .int .u64 ((Wd.lo pa).toNat), .int .u64 ((Wd.hi pc).toNat), .int .u64 ((Wd.lo pc).toNat)]), (1, .agg #[.int .u64 ((Wd.hi qa).toNat), .int .u64 ((Wd.lo qa).toNat), .int .u64 ((Wd.hi qc).toNat), .int .u64 ((Wd.lo qc).toNat)]), (2, .pointer (some ⟨g1, 0, none⟩)), (3, .pointer (some ⟨g2, 0, none⟩)), (4, .pointer (some ⟨g3, 0, none⟩)), (5, .pointer (some ⟨g4, 0, none⟩))]) ⟨rfl, rfl, rfl, rfl, rfl, rfl, trivial⟩
    refine hK2 _ _ ?_
    refine Sx.seq (fun K3 hK3 => ?_)
    have F := Sx.Fr.to F (kv' := [(0, .agg #[.int .u64 ((Wd.hi pa).toNat), .int .u64 ((Wd.lo pa).toNat), .int .u64 ((Wd.hi pc).toNat), .int .u64 ((Wd.lo pc).toNat)]), (1, .agg #[.int .u64 ((Wd.hi qa).toNat), .int .u64 ((Wd.lo qa).toNat), .int .u64 ((Wd.hi qc).toNat), .int .u64 ((Wd.lo qc).toNat)]), (2, .pointer (some ⟨g1, 0, none⟩)), (3, .pointer (some ⟨g2, 0, none⟩)), (4, .pointer (some ⟨g3, 0, none⟩)), (5, .pointer (some ⟨g4, 0, none⟩))]) ⟨rfl, rfl, rfl, rfl, rfl, rfl, trivial⟩
    refine Sx.drawn F (by kernel_rfl) (by kernel_rfl) (by kernel_rfl) [some (.agg #[.int .u64 ((Wd.hi qa).toNat), .int .u64 ((Wd.lo qa).toNat), .int .u64 ((Wd.hi qc).toNat), .int .u64 ((Wd.lo qc).toNat)]), some (.agg #[.int .u64 ((Wd.hi pa).toNat), .int .u64 ((Wd.lo pa).toNat), .int .u64 ((Wd.hi pc).toNat), .int .u64 ((Wd.lo pc).toNat)]), some (.agg #[.int .u64 ((Wd.hi 1#128).toNat), .int .u64 ((Wd.lo 1#128).toNat)]), some (.agg #[.int .u64 ((Wd.hi (pa * 1#128 + pc)).toNat), .int .u64 ((Wd.lo (pa * 1#128 + pc)).toNat)]), some (.agg #[.int .u64 ((Wd.hi (qa * (pa * 1#128 + pc) + qc)).toNat), .int .u64 ((Wd.lo (qa * (pa * 1#128 + pc) + qc)).toNat)]), none, none] (fun L A w => ∃ g5 : Nat, (L 5 = true → A.eval (.tmp 6) = .pointer (some ⟨g5, 0, none⟩)) ∧ Sx.Own w0 w [(true, g3, [.int .u64 ((Wd.hi 0#128).toNat), .int .u64 ((Wd.lo 0#128).toNat), .int .u64 ((Wd.hi 0#128).toNat), .int .u64 ((Wd.lo 0#128).toNat)]), (true, g2, [.int .u64 ((Wd.hi qa).toNat), .int .u64 ((Wd.lo qa).toNat), .int .u64 ((Wd.hi qc).toNat), .int .u64 ((Wd.lo qc).toNat)]), (true, g1, [.int .u64 ((Wd.hi pa).toNat), .int .u64 ((Wd.lo pa).toNat), .int .u64 ((Wd.hi pc).toNat), .int .u64 ((Wd.lo pc).toNat)]), (true, g4, [.int .u64 ((Wd.hi (qa * (pa * 0#128 + pc) + qc)).toNat), .int .u64 ((Wd.lo (qa * (pa * 0#128 + pc) + qc)).toNat)]), (L 5, g5, (cond (L 6) [.int .u64 ((Wd.hi (qa * (pa * 1#128 + pc) + qc)).toNat), .int .u64 ((Wd.lo (qa * (pa * 1#128 + pc) + qc)).toNat)] [.int .u64 ((Wd.hi 0#128).toNat), .int .u64 ((Wd.lo 0#128).toNat)]))] []) ⟨0, (fun h => by cases h), H.drew.pad [(false, 0, [.int .u64 ((Wd.hi 0#128).toNat), .int .u64 ((Wd.lo 0#128).toNat)])] rfl [] rfl⟩ ?_ ?_
    · refine ⟨?_, ?_, ?_, ?_, ?_, ?_, ?_, trivial⟩
      · show Sx.StepAt _ _ _ _ _ _ _ 0
        intro L A w up hun hd F ⟨g5, p5, H⟩
        have f6 : L 6 = false := up 6 0 rfl hun
        rw [f6] at H
        have F := Sx.Fr.to F (kv' := [(3, .pointer (some ⟨g2, 0, none⟩))]) ⟨rfl, trivial⟩
        refine Sx.step_on rfl (Sx.d_load (i := 1) (xs := [.int .u64 ((Wd.hi qa).toNat), .int .u64 ((Wd.lo qa).toNat), .int .u64 ((Wd.hi qc).toNat), .int .u64 ((Wd.lo qc).toNat)]) rw_37 F H rfl rfl rfl rfl rfl) ?_
        rintro xv w' ⟨hx, rfl⟩
        exact ⟨(fun cv hc => hx.trans (Option.some.inj (Option.some.inj hc))), ⟨g5, (fun h => (Sx.put_ne rfl _).trans (p5 h)), (by show Sx.Own _ _ _ _; rw [show Inv.add L 0 6 = false from f6]; exact H)⟩⟩
      · show Sx.StepAt _ _ _ _ _ _ _ 1
        intro L A w up hun hd F ⟨g5, p5, H⟩
        have f6 : L 6 = false := up 6 1 rfl hun
        rw [f6] at H
        have F := Sx.Fr.to F (kv' := [(2, .pointer (some ⟨g1, 0, none⟩))]) ⟨rfl, trivial⟩
        refine Sx.step_on rfl (Sx.d_load (i := 2) (xs := [.int .u64 ((Wd.hi pa).toNat), .int .u64 ((Wd.lo pa).toNat), .int .u64 ((Wd.hi pc).toNat), .int .u64 ((Wd.lo pc).toNat)]) rw_37 F H rfl rfl rfl rfl rfl) ?_
        rintro xv w' ⟨hx, rfl⟩
        exact ⟨(fun cv hc => hx.trans (Option.some.inj (Option.some.inj hc))), ⟨g5, (fun h => (Sx.put_ne rfl _).trans (p5 h)), (by show Sx.Own _ _ _ _; rw [show Inv.add L 1 6 = false from f6]; exact H)⟩⟩
      · show Sx.StepAt _ _ _ _ _ _ _ 2
        intro L A w up hun hd F ⟨g5, p5, H⟩
        have f6 : L 6 = false := up 6 2 rfl hun
        rw [f6] at H
        have F := Sx.Fr.to F (kv' := []) trivial
        refine Sx.step_on rfl (Sx.d_build (qs := #[(0, .int .u64 0), (1, .int .u64 1)]) (v := .agg #[.int .u64 ((Wd.hi 1#128).toNat), .int .u64 ((Wd.lo 1#128).toNat)]) F rfl rfl (by kernel_rfl)) ?_
        rintro xv w' ⟨hx, rfl⟩
        exact ⟨(fun cv hc => hx.trans (Option.some.inj (Option.some.inj hc))), ⟨g5, (fun h => (Sx.put_ne rfl _).trans (p5 h)), (by show Sx.Own _ _ _ _; rw [show Inv.add L 2 6 = false from f6]; exact H)⟩⟩
      · show Sx.StepAt _ _ _ _ _ _ _ 3
        intro L A w up hun hd F ⟨g5, p5, H⟩
        have f6 : L 6 = false := up 6 3 rfl hun
        rw [f6] at H
        have F := Sx.Fr.to F (kv' := [(15, .agg #[.int .u64 ((Wd.hi pa).toNat), .int .u64 ((Wd.lo pa).toNat), .int .u64 ((Wd.hi pc).toNat), .int .u64 ((Wd.lo pc).toNat)]), (16, .agg #[.int .u64 ((Wd.hi 1#128).toNat), .int .u64 ((Wd.lo 1#128).toNat)])]) ⟨rfl, rfl, trivial⟩
        refine Sx.step_on rfl (Sx.d_call (vs := [.agg #[.int .u64 ((Wd.hi pa).toNat), .int .u64 ((Wd.lo pa).toNat), .int .u64 ((Wd.hi pc).toNat), .int .u64 ((Wd.lo pc).toNat)], .agg #[.int .u64 ((Wd.hi 1#128).toNat), .int .u64 ((Wd.lo 1#128).toNat)]]) (v := .agg #[.int .u64 ((Wd.hi (pa * 1#128 + pc)).toNat), .int .u64 ((Wd.lo (pa * 1#128 + pc)).toNat)]) if_22 F H rfl rfl (rat9_c pa pc 1#128 _)) ?_
        rintro xv w' ⟨hx, H⟩
        exact ⟨(fun cv hc => hx.trans (Option.some.inj (Option.some.inj hc))), ⟨g5, (fun h => (Sx.put_ne rfl _).trans (p5 h)), (by show Sx.Own _ _ _ _; rw [show Inv.add L 3 6 = false from f6]; exact H)⟩⟩
      · show Sx.StepAt _ _ _ _ _ _ _ 4
        intro L A w up hun hd F ⟨g5, p5, H⟩
        have f6 : L 6 = false := up 6 4 rfl hun
        rw [f6] at H
        have F := Sx.Fr.to F (kv' := [(14, .agg #[.int .u64 ((Wd.hi qa).toNat), .int .u64 ((Wd.lo qa).toNat), .int .u64 ((Wd.hi qc).toNat), .int .u64 ((Wd.lo qc).toNat)]), (17, .agg #[.int .u64 ((Wd.hi (pa * 1#128 + pc)).toNat), .int .u64 ((Wd.lo (pa * 1#128 + pc)).toNat)])]) ⟨rfl, rfl, trivial⟩
        refine Sx.step_on rfl (Sx.d_call (vs := [.agg #[.int .u64 ((Wd.hi qa).toNat), .int .u64 ((Wd.lo qa).toNat), .int .u64 ((Wd.hi qc).toNat), .int .u64 ((Wd.lo qc).toNat)], .agg #[.int .u64 ((Wd.hi (pa * 1#128 + pc)).toNat), .int .u64 ((Wd.lo (pa * 1#128 + pc)).toNat)]]) (v := .agg #[.int .u64 ((Wd.hi (qa * (pa * 1#128 + pc) + qc)).toNat), .int .u64 ((Wd.lo (qa * (pa * 1#128 + pc) + qc)).toNat)]) if_22 F H rfl rfl (rat9_c qa qc (pa * 1#128 + pc) _)) ?_
        rintro xv w' ⟨hx, H⟩
        exact ⟨(fun cv hc => hx.trans (Option.some.inj (Option.some.inj hc))), ⟨g5, (fun h => (Sx.put_ne rfl _).trans (p5 h)), (by show Sx.Own _ _ _ _; rw [show Inv.add L 4 6 = false from f6]; exact H)⟩⟩
      · show Sx.StepAt _ _ _ _ _ _ _ 5
        intro L A w up hun hd F ⟨g5, p5, H⟩
        have f5 : L 5 = false := hun
        have f6 : L 6 = false := up 6 5 rfl hun
        rw [f5, f6] at H
        have F := Sx.Fr.to F (kv' := []) trivial
        refine Sx.step_on rfl (Sx.d_alloc_at H rfl 4 [.int .u64 ((Wd.hi 0#128).toNat), .int .u64 ((Wd.lo 0#128).toNat)] zero_31) ?_
        rintro xv w' ⟨g', hx, H⟩
        exact ⟨(fun cv hc => by have h := Option.some.inj hc; cases h), ⟨g', (fun _ => (Sx.put_same F (by decide) _).trans hx), (by show Sx.Own _ _ _ _; rw [show Inv.add L 5 6 = false from f6]; exact H)⟩⟩
      · show Sx.StepAt _ _ _ _ _ _ _ 6
        intro L A w up hun hd F ⟨g5, p5, H⟩
        have t5 : L 5 = true := hd 5 rfl
        have f6 : L 6 = false := hun
        rw [t5, f6] at H
        have F := Sx.Fr.to F (kv' := [(18, .agg #[.int .u64 ((Wd.hi (qa * (pa * 1#128 + pc) + qc)).toNat), .int .u64 ((Wd.lo (qa * (pa * 1#128 + pc) + qc)).toNat)])]) ⟨rfl, trivial⟩
        have F := Sx.Fr.add F (p5 t5)
        refine Sx.step_on rfl (Sx.d_store (i := 4) (xs := [.int .u64 ((Wd.hi (qa * (pa * 1#128 + pc) + qc)).toNat), .int .u64 ((Wd.lo (qa * (pa * 1#128 + pc) + qc)).toNat)]) (us := [.int .u64 ((Wd.hi (qa * (pa * 1#128 + pc) + qc)).toNat), .int .u64 ((Wd.lo (qa * (pa * 1#128 + pc) + qc)).toNat)]) sz_31 F H rfl rfl rfl rfl rfl rfl rfl (Nat.le_of_ble_eq_true rfl) rfl) ?_
        intro xv w' H
        exact ⟨(fun cv hc => by have h := Option.some.inj hc; cases h), ⟨g5, p5, (by show Sx.Own _ _ _ _; rw [show Inv.add L 6 5 = true from t5]; exact H)⟩⟩
    · intro L A w hL F ⟨g5, p5, H⟩
      have t5 : L 5 = true := hL 5 rfl
      have t6 : L 6 = true := hL 6 rfl
      rw [t5, t6] at H
      have F := Sx.Fr.add F (p5 t5)
      have F := Sx.Fr.to F (kv' := [(0, .agg #[.int .u64 ((Wd.hi pa).toNat), .int .u64 ((Wd.lo pa).toNat), .int .u64 ((Wd.hi pc).toNat), .int .u64 ((Wd.lo pc).toNat)]), (1, .agg #[.int .u64 ((Wd.hi qa).toNat), .int .u64 ((Wd.lo qa).toNat), .int .u64 ((Wd.hi qc).toNat), .int .u64 ((Wd.lo qc).toNat)]), (2, .pointer (some ⟨g1, 0, none⟩)), (3, .pointer (some ⟨g2, 0, none⟩)), (4, .pointer (some ⟨g3, 0, none⟩)), (5, .pointer (some ⟨g4, 0, none⟩)), (6, .pointer (some ⟨g5, 0, none⟩))]) ⟨rfl, rfl, rfl, rfl, rfl, rfl, rfl, trivial⟩
      refine hK3 _ _ ?_
      refine Sx.seq (fun K4 hK4 => ?_)
      refine Sx.plain ?_
      refine Sx.sv F (Sx.d_load (i := 4) (xs := [.int .u64 ((Wd.hi (qa * (pa * 1#128 + pc) + qc)).toNat), .int .u64 ((Wd.lo (qa * (pa * 1#128 + pc) + qc)).toNat)]) rw_31 F H rfl rfl rfl rfl rfl) (Sx.wanted_none rfl _) rfl (by decide) (fun A F => ?_)
      refine Sx.sv F (Sx.d_load (i := 3) (xs := [.int .u64 ((Wd.hi (qa * (pa * 0#128 + pc) + qc)).toNat), .int .u64 ((Wd.lo (qa * (pa * 0#128 + pc) + qc)).toNat)]) rw_31 F H rfl rfl rfl rfl rfl) (Sx.wanted_none rfl _) rfl (by decide) (fun A F => ?_)
      refine Sx.sw F (Sx.d_call (vs := [.agg #[.int .u64 ((Wd.hi (qa * (pa * 1#128 + pc) + qc)).toNat), .int .u64 ((Wd.lo (qa * (pa * 1#128 + pc) + qc)).toNat)], .agg #[.int .u64 ((Wd.hi (qa * (pa * 0#128 + pc) + qc)).toNat), .int .u64 ((Wd.lo (qa * (pa * 0#128 + pc) + qc)).toNat)]]) (v := .tuple #[.agg #[.int .u64 ((Wd.hi ((qa * (pa * 1#128 + pc) + qc) - (qa * (pa * 0#128 + pc) + qc))).toNat), .int .u64 ((Wd.lo ((qa * (pa * 1#128 + pc) + qc) - (qa * (pa * 0#128 + pc) + qc))).toNat)], .bool (Wd.less (qa * (pa * 1#128 + pc) + qc) (qa * (pa * 0#128 + pc) + qc))]) if_63 F H rfl rfl (rsub_c (qa * (pa * 1#128 + pc) + qc) (qa * (pa * 0#128 + pc) + qc) _)) (Sx.wanted_none rfl _) rfl (by decide) (fun A w F H => ?_)
      refine Sx.sv F (Sx.d_move F (Or.inl rfl) rfl) (Sx.wanted_none rfl _) rfl (by decide) (fun A F => ?_)
      refine Sx.sv F (Sx.d_extract (v := .agg #[.int .u64 ((Wd.hi ((qa * (pa * 1#128 + pc) + qc) - (qa * (pa * 0#128 + pc) + qc))).toNat), .int .u64 ((Wd.lo ((qa * (pa * 1#128 + pc) + qc) - (qa * (pa * 0#128 + pc) + qc))).toNat)]) F rfl rfl rfl) (Sx.wanted_none rfl _) rfl (by decide) (fun A F => ?_)
      refine Sx.sv F (Sx.d_extract (v := .bool (Wd.less (qa * (pa * 1#128 + pc) + qc) (qa * (pa * 0#128 + pc) + qc))) F rfl rfl rfl) (Sx.wanted_none rfl _) rfl (by decide) (fun A F => ?_)
      refine Sx.sb F (Sx.d_alloc H rfl [.int .u64 ((Wd.hi 0#128).toNat), .int .u64 ((Wd.lo 0#128).toNat)] zero_31) (Sx.wanted_none rfl _) rfl (by decide) (fun g6 A w F H => ?_)
      refine Sx.ss F (Sx.d_store (i := 0) (xs := [.int .u64 ((Wd.hi ((qa * (pa * 1#128 + pc) + qc) - (qa * (pa * 0#128 + pc) + qc))).toNat), .int .u64 ((Wd.lo ((qa * (pa * 1#128 + pc) + qc) - (qa * (pa * 0#128 + pc) + qc))).toNat)]) (us := [.int .u64 ((Wd.hi ((qa * (pa * 1#128 + pc) + qc) - (qa * (pa * 0#128 + pc) + qc))).toNat), .int .u64 ((Wd.lo ((qa * (pa * 1#128 + pc) + qc) - (qa * (pa * 0#128 + pc) + qc))).toNat)]) sz_31 F H rfl rfl rfl rfl rfl rfl rfl (Nat.le_of_ble_eq_true rfl) rfl) (Sx.wanted_none rfl _) rfl (fun A w F (H : Sx.Own w0 _ [(true, g6, [.int .u64 ((Wd.hi ((qa * (pa * 1#128 + pc) + qc) - (qa * (pa * 0#128 + pc) + qc))).toNat), .int .u64 ((Wd.lo ((qa * (pa * 1#128 + pc) + qc) - (qa * (pa * 0#128 + pc) + qc))).toNat)]), (true, g3, [.int .u64 ((Wd.hi 0#128).toNat), .int .u64 ((Wd.lo 0#128).toNat), .int .u64 ((Wd.hi 0#128).toNat), .int .u64 ((Wd.lo 0#128).toNat)]), (true, g2, [.int .u64 ((Wd.hi qa).toNat), .int .u64 ((Wd.lo qa).toNat), .int .u64 ((Wd.hi qc).toNat), .int .u64 ((Wd.lo qc).toNat)]), (true, g1, [.int .u64 ((Wd.hi pa).toNat), .int .u64 ((Wd.lo pa).toNat), .int .u64 ((Wd.hi pc).toNat), .int .u64 ((Wd.lo pc).toNat)]), (true, g4, [.int .u64 ((Wd.hi (qa * (pa * 0#128 + pc) + qc)).toNat), .int .u64 ((Wd.lo (qa * (pa * 0#128 + pc) + qc)).toNat)]), (true, g5, [.int .u64 ((Wd.hi (qa * (pa * 1#128 + pc) + qc)).toNat), .int .u64 ((Wd.lo (qa * (pa * 1#128 + pc) + qc)).toNat)])] []) => ?_)
      refine Sx.sv F (Sx.d_move F (Or.inr rfl) rfl) (Sx.wanted_none rfl _) rfl (by decide) (fun A F => ?_)
      refine Sx.nil ?_
      refine hK4 _ _ ?_
      refine Sx.seq (fun K5 hK5 => ?_)
      refine Sx.plain ?_
      refine Sx.sv F (Sx.d_load (i := 0) (xs := [.int .u64 ((Wd.hi ((qa * (pa * 1#128 + pc) + qc) - (qa * (pa * 0#128 + pc) + qc))).toNat), .int .u64 ((Wd.lo ((qa * (pa * 1#128 + pc) + qc) - (qa * (pa * 0#128 + pc) + qc))).toNat)]) rw_31 F H rfl rfl rfl rfl rfl) (Sx.wanted_none rfl _) rfl (by decide) (fun A F => ?_)
      refine Sx.sv F (Sx.d_load (i := 4) (xs := [.int .u64 ((Wd.hi (qa * (pa * 0#128 + pc) + qc)).toNat), .int .u64 ((Wd.lo (qa * (pa * 0#128 + pc) + qc)).toNat)]) rw_31 F H rfl rfl rfl rfl rfl) (Sx.wanted_none rfl _) rfl (by decide) (fun A F => ?_)
      refine Sx.sv F (Sx.d_build (qs := #[(0, .agg #[.int .u64 ((Wd.hi ((qa * (pa * 1#128 + pc) + qc) - (qa * (pa * 0#128 + pc) + qc))).toNat), .int .u64 ((Wd.lo ((qa * (pa * 1#128 + pc) + qc) - (qa * (pa * 0#128 + pc) + qc))).toNat)]), (1, .agg #[.int .u64 ((Wd.hi (qa * (pa * 0#128 + pc) + qc)).toNat), .int .u64 ((Wd.lo (qa * (pa * 0#128 + pc) + qc)).toNat)])]) (v := .agg #[.int .u64 ((Wd.hi ((qa * (pa * 1#128 + pc) + qc) - (qa * (pa * 0#128 + pc) + qc))).toNat), .int .u64 ((Wd.lo ((qa * (pa * 1#128 + pc) + qc) - (qa * (pa * 0#128 + pc) + qc))).toNat), .int .u64 ((Wd.hi (qa * (pa * 0#128 + pc) + qc)).toNat), .int .u64 ((Wd.lo (qa * (pa * 0#128 + pc) + qc)).toNat)]) F rfl rfl (by kernel_rfl)) (Sx.wanted_none rfl _) rfl (by decide) (fun A F => ?_)
      refine Sx.ss F (Sx.d_store (i := 1) (xs := [.int .u64 ((Wd.hi ((qa * (pa * 1#128 + pc) + qc) - (qa * (pa * 0#128 + pc) + qc))).toNat), .int .u64 ((Wd.lo ((qa * (pa * 1#128 + pc) + qc) - (qa * (pa * 0#128 + pc) + qc))).toNat), .int .u64 ((Wd.hi (qa * (pa * 0#128 + pc) + qc)).toNat), .int .u64 ((Wd.lo (qa * (pa * 0#128 + pc) + qc)).toNat)]) (us := [.int .u64 ((Wd.hi ((qa * (pa * 1#128 + pc) + qc) - (qa * (pa * 0#128 + pc) + qc))).toNat), .int .u64 ((Wd.lo ((qa * (pa * 1#128 + pc) + qc) - (qa * (pa * 0#128 + pc) + qc))).toNat), .int .u64 ((Wd.hi (qa * (pa * 0#128 + pc) + qc)).toNat), .int .u64 ((Wd.lo (qa * (pa * 0#128 + pc) + qc)).toNat)]) sz_37 F H rfl rfl rfl rfl rfl rfl rfl (Nat.le_of_ble_eq_true rfl) rfl) (Sx.wanted_none rfl _) rfl (fun A w F (H : Sx.Own w0 _ [(true, g6, [.int .u64 ((Wd.hi ((qa * (pa * 1#128 + pc) + qc) - (qa * (pa * 0#128 + pc) + qc))).toNat), .int .u64 ((Wd.lo ((qa * (pa * 1#128 + pc) + qc) - (qa * (pa * 0#128 + pc) + qc))).toNat)]), (true, g3, [.int .u64 ((Wd.hi ((qa * (pa * 1#128 + pc) + qc) - (qa * (pa * 0#128 + pc) + qc))).toNat), .int .u64 ((Wd.lo ((qa * (pa * 1#128 + pc) + qc) - (qa * (pa * 0#128 + pc) + qc))).toNat), .int .u64 ((Wd.hi (qa * (pa * 0#128 + pc) + qc)).toNat), .int .u64 ((Wd.lo (qa * (pa * 0#128 + pc) + qc)).toNat)]), (true, g2, [.int .u64 ((Wd.hi qa).toNat), .int .u64 ((Wd.lo qa).toNat), .int .u64 ((Wd.hi qc).toNat), .int .u64 ((Wd.lo qc).toNat)]), (true, g1, [.int .u64 ((Wd.hi pa).toNat), .int .u64 ((Wd.lo pa).toNat), .int .u64 ((Wd.hi pc).toNat), .int .u64 ((Wd.lo pc).toNat)]), (true, g4, [.int .u64 ((Wd.hi (qa * (pa * 0#128 + pc) + qc)).toNat), .int .u64 ((Wd.lo (qa * (pa * 0#128 + pc) + qc)).toNat)]), (true, g5, [.int .u64 ((Wd.hi (qa * (pa * 1#128 + pc) + qc)).toNat), .int .u64 ((Wd.lo (qa * (pa * 1#128 + pc) + qc)).toNat)])] []) => ?_)
      refine Sx.nil ?_
      refine hK5 _ _ ?_
      refine wp_ret ?_
      try dsimp only [Exit.then, Exit.inBlock, Exit.jump]
      refine Sx.ret1 F Try.results19 (Sx.res_row (i := 1) (xs := [.int .u64 ((Wd.hi ((qa * (pa * 1#128 + pc) + qc) - (qa * (pa * 0#128 + pc) + qc))).toNat), .int .u64 ((Wd.lo ((qa * (pa * 1#128 + pc) + qc) - (qa * (pa * 0#128 + pc) + qc))).toNat), .int .u64 ((Wd.hi (qa * (pa * 0#128 + pc) + qc)).toNat), .int .u64 ((Wd.lo (qa * (pa * 0#128 + pc) + qc)).toNat)]) rw_37 F H rfl rfl rfl rfl) ⟨?_, H.below⟩
      rw [Bi.then1, Bi.then0]
set_option maxRecDepth 100000 in
theorem rpow9_c (pa pc x : BitVec 128) (w0 : World) : Calls Try.prog 25 #[.agg #[.int .u64 ((Wd.hi pa).toNat), .int .u64 ((Wd.lo pa).toNat), .int .u64 ((Wd.hi pc).toNat), .int .u64 ((Wd.lo pc).toNat)], .agg #[.int .u64 ((Wd.hi x).toNat), .int .u64 ((Wd.lo x).toNat)]] w0 fun e w' => e = .returned (.agg #[.int .u64 ((Wd.hi ((Af.pow ⟨pa, pc⟩ x.toNat).a)).toNat), .int .u64 ((Wd.lo ((Af.pow ⟨pa, pc⟩ x.toNat).a)).toNat), .int .u64 ((Wd.hi ((Af.pow ⟨pa, pc⟩ x.toNat).c)).toNat), .int .u64 ((Wd.lo ((Af.pow ⟨pa, pc⟩ x.toNat).c)).toNat)]) ∧ Below w0.heap.size w0 w' := by
  refine Sx.enter (args := [.agg #[.int .u64 ((Wd.hi pa).toNat), .int .u64 ((Wd.lo pa).toNat), .int .u64 ((Wd.hi pc).toNat), .int .u64 ((Wd.lo pc).toNat)], .agg #[.int .u64 ((Wd.hi x).toNat), .int .u64 ((Wd.lo x).toNat)]]) Try.func25 rfl Try.ntmps25 (Nat.le_of_ble_eq_true rfl) (fun A F => ?_)
  have H := Sx.Own.start w0
  refine Sx.seq (fun K1 hK1 => ?_)
  refine Sx.plain ?_
  refine Sx.sb F (Sx.d_box F H rfl rfl [.int .u64 ((Wd.hi pa).toNat), .int .u64 ((Wd.lo pa).toNat), .int .u64 ((Wd.hi pc).toNat), .int .u64 ((Wd.lo pc).toNat)] rfl) (Sx.wanted_none rfl _) rfl (by decide) (fun g1 A w F H => ?_)
  refine Sx.sb F (Sx.d_box F H rfl rfl [.int .u64 ((Wd.hi x).toNat), .int .u64 ((Wd.lo x).toNat)] rfl) (Sx.wanted_none rfl _) rfl (by decide) (fun g2 A w F H => ?_)
  refine Sx.sb F (Sx.d_alloc H rfl [.int .u64 ((Wd.hi 0#128).toNat), .int .u64 ((Wd.lo 0#128).toNat), .int .u64 ((Wd.hi 0#128).toNat), .int .u64 ((Wd.lo 0#128).toNat)] zero_37) (Sx.wanted_none rfl _) rfl (by decide) (fun g3 A w F H => ?_)
  refine Sx.nil ?_
  refine hK1 _ _ ?_
  refine Sx.seq (fun K2 hK2 => ?_)
  refine Sx.plain ?_
  refine Sx.sv F (Sx.d_build (qs := #[(0, .int .u64 0), (1, .int .u64 1)]) (v := .agg #[.int .u64 ((Wd.hi 1#128).toNat), .int .u64 ((Wd.lo 1#128).toNat)]) F rfl rfl (by kernel_rfl)) (Sx.wanted_none rfl _) rfl (by decide) (fun A F => ?_)
  refine Sx.sv F (Sx.d_build (qs := #[(0, .agg #[.int .u64 ((Wd.hi 1#128).toNat), .int .u64 ((Wd.lo 1#128).toNat)])]) (v := .agg #[.int .u64 ((Wd.hi 1#128).toNat), .int .u64 ((Wd.lo 1#128).toNat), .int .u64 ((Wd.hi 0#128).toNat), .int .u64 ((Wd.lo 0#128).toNat)]) F rfl rfl (by kernel_rfl)) (Sx.wanted_none rfl _) rfl (by decide) (fun A F => ?_)
  refine Sx.sb F (Sx.d_alloc H rfl [.int .u64 ((Wd.hi 0#128).toNat), .int .u64 ((Wd.lo 0#128).toNat), .int .u64 ((Wd.hi 0#128).toNat), .int .u64 ((Wd.lo 0#128).toNat)] zero_37) (Sx.wanted_none rfl _) rfl (by decide) (fun g4 A w F H => ?_)
  refine Sx.ss F (Sx.d_store (i := 0) (xs := [.int .u64 ((Wd.hi 1#128).toNat), .int .u64 ((Wd.lo 1#128).toNat), .int .u64 ((Wd.hi 0#128).toNat), .int .u64 ((Wd.lo 0#128).toNat)]) (us := [.int .u64 ((Wd.hi 1#128).toNat), .int .u64 ((Wd.lo 1#128).toNat), .int .u64 ((Wd.hi 0#128).toNat), .int .u64 ((Wd.lo 0#128).toNat)]) sz_37 F H rfl rfl rfl rfl rfl rfl rfl (Nat.le_of_ble_eq_true rfl) rfl) (Sx.wanted_none rfl _) rfl (fun A w F (H : Sx.Own w0 _ [(true, g4, [.int .u64 ((Wd.hi 1#128).toNat), .int .u64 ((Wd.lo 1#128).toNat), .int .u64 ((Wd.hi 0#128).toNat), .int .u64 ((Wd.lo 0#128).toNat)]), (true, g3, [.int .u64 ((Wd.hi 0#128).toNat), .int .u64 ((Wd.lo 0#128).toNat), .int .u64 ((Wd.hi 0#128).toNat), .int .u64 ((Wd.lo 0#128).toNat)]), (true, g2, [.int .u64 ((Wd.hi x).toNat), .int .u64 ((Wd.lo x).toNat)]), (true, g1, [.int .u64 ((Wd.hi pa).toNat), .int .u64 ((Wd.lo pa).toNat), .int .u64 ((Wd.hi pc).toNat), .int .u64 ((Wd.lo pc).toNat)])] []) => ?_)
  refine Sx.nil ?_
  refine hK2 _ _ ?_
  refine Sx.seq (fun K3 hK3 => ?_)
  refine Sx.plain ?_
  refine Sx.sv F (Sx.d_load (i := 2) (xs := [.int .u64 ((Wd.hi x).toNat), .int .u64 ((Wd.lo x).toNat)]) rw_31 F H rfl rfl rfl rfl rfl) (Sx.wanted_none rfl _) rfl (by decide) (fun A F => ?_)
  refine Sx.sr (mk := fun v => v) F (Sx.d_callR (vs := [.agg #[.int .u64 ((Wd.hi x).toNat), .int .u64 ((Wd.lo x).toNat)]]) (mk := fun v => v) if_65 F H rfl rfl (rlist_c x _)) (Sx.wanted_none rfl _) rfl (by decide) (fun v1 A w F (H : Sx.Own w0 _ [(true, g4, [.int .u64 ((Wd.hi 1#128).toNat), .int .u64 ((Wd.lo 1#128).toNat), .int .u64 ((Wd.hi 0#128).toNat), .int .u64 ((Wd.lo 0#128).toNat)]), (true, g3, [.int .u64 ((Wd.hi 0#128).toNat), .int .u64 ((Wd.lo 0#128).toNat), .int .u64 ((Wd.hi 0#128).toNat), .int .u64 ((Wd.lo 0#128).toNat)]), (true, g2, [.int .u64 ((Wd.hi x).toNat), .int .u64 ((Wd.lo x).toNat)]), (true, g1, [.int .u64 ((Wd.hi pa).toNat), .int .u64 ((Wd.lo pa).toNat), .int .u64 ((Wd.hi pc).toNat), .int .u64 ((Wd.lo pc).toNat)])] [⟨true, v1, 3, 1, 128, (Bi.bis (BitVec.getLsbD x) 128)⟩]) => ?_)
  refine Sx.sv F (Sx.d_move F (Or.inr rfl) rfl) (Sx.wanted_none rfl _) rfl (by decide) (fun A F => ?_)
  refine Sx.nil ?_
  refine hK3 _ _ ?_
  refine Sx.seq (fun K4 hK4 => ?_)
  refine Sx.seq (fun K5 hK5 => ?_)
  refine Sx.plain ?_
  refine Sx.sv F (Sx.d_load (i := 2) (xs := [.int .u64 ((Wd.hi x).toNat), .int .u64 ((Wd.lo x).toNat)]) rw_31 F H rfl rfl rfl rfl rfl) (Sx.wanted_none rfl _) rfl (by decide) (fun A F => ?_)
  refine Sx.sw F (Sx.d_call (vs := [.agg #[.int .u64 ((Wd.hi x).toNat), .int .u64 ((Wd.lo x).toNat)]]) (v := .int .i64 (Bi.len x)) if_66 F H rfl rfl (rlen_c x _)) (Sx.wanted_none rfl _) rfl (by decide) (fun A w F H => ?_)
  refine Sx.sv F (Sx.d_bin (v := .int .i64 ((Bi.len x : Int) - 1)) F rfl rfl rfl (Sx.i_subS (Sx.in64 _ (by have := Bi.len_le x; omega)))) (Sx.wanted_none rfl _) rfl (by decide) (fun A F => ?_)
  refine Sx.sv F (Sx.d_move F (Or.inr rfl) rfl) (Sx.wanted_none rfl _) rfl (by decide) (fun A F => ?_)
  refine Sx.nil ?_
  refine hK5 _ _ ?_
  refine wp_block ?_
  obtain ⟨lg, lc, rfl, hc1, hc2⟩ := H.open (i := 0) rfl (by omega)
  refine Sx.loop (fun k A w => k ≤ 128 ∧ Sx.Fr 31 A [(2, .pointer (some ⟨g1, 0, none⟩)), (4, .pointer (some ⟨g3, 0, none⟩)), (5, .pointer (some ⟨g4, 0, none⟩)), (6, .slice (some ⟨lg, 0, none⟩) 128 lc), (7, .int .i64 ((k : Int) - 1))] ∧ Sx.Own w0 w [(true, g4, [.int .u64 ((Wd.hi ((Af.pow ⟨pa, pc⟩ (x.toNat / 2 ^ k)).a)).toNat), .int .u64 ((Wd.lo ((Af.pow ⟨pa, pc⟩ (x.toNat / 2 ^ k)).a)).toNat), .int .u64 ((Wd.hi ((Af.pow ⟨pa, pc⟩ (x.toNat / 2 ^ k)).c)).toNat), .int .u64 ((Wd.lo ((Af.pow ⟨pa, pc⟩ (x.toNat / 2 ^ k)).c)).toNat)]), (true, g3, [.int .u64 ((Wd.hi 0#128).toNat), .int .u64 ((Wd.lo 0#128).toNat), .int .u64 ((Wd.hi 0#128).toNat), .int .u64 ((Wd.lo 0#128).toNat)]), (true, g2, [.int .u64 ((Wd.hi x).toNat), .int .u64 ((Wd.lo x).toNat)]), (true, g1, [.int .u64 ((Wd.hi pa).toNat), .int .u64 ((Wd.lo pa).toNat), .int .u64 ((Wd.hi pc).toNat), .int .u64 ((Wd.lo pc).toNat)])] [⟨true, .slice (some ⟨lg, 0, none⟩) 128 lc, 3, 1, 128, (Bi.bis (BitVec.getLsbD x) 128)⟩]) (Bi.len x) ⟨Bi.len_le x, F.to ⟨rfl, rfl, rfl, rfl, rfl, trivial⟩, by rw [Bi.len_shift]; exact H⟩ ?_
  rintro k A w ⟨hk, F, H⟩
  rcases k with _ | t
  · skip
    refine Sx.seq (fun K6 hK6 => ?_)
    refine Sx.seq (fun K7 hK7 => ?_)
    refine Sx.plain ?_
    refine Sx.sv F (Sx.d_move F (Or.inl rfl) rfl) (Sx.wanted_none rfl _) rfl (by decide) (fun A F => ?_)
    refine Sx.sv F (Sx.d_bin (v := .bool false) F rfl rfl rfl (Sx.i_ge (by decide))) (Sx.wanted_none rfl _) rfl (by decide) (fun A F => ?_)
    refine Sx.nil ?_
    refine hK7 _ _ ?_
    refine Sx.condF F rfl ?_
    refine wp_exit ?_
    try dsimp only [Exit.then, Exit.jump]
    refine Sx.exit_here ?_
    refine hK4 _ _ ?_
    refine Sx.seq (fun K8 hK8 => ?_)
    refine Sx.plain ?_
    refine Sx.sv F (Sx.d_load (i := 0) (xs := [.int .u64 ((Wd.hi ((Af.pow ⟨pa, pc⟩ (x.toNat / 2 ^ 0)).a)).toNat), .int .u64 ((Wd.lo ((Af.pow ⟨pa, pc⟩ (x.toNat / 2 ^ 0)).a)).toNat), .int .u64 ((Wd.hi ((Af.pow ⟨pa, pc⟩ (x.toNat / 2 ^ 0)).c)).toNat), .int .u64 ((Wd.lo ((Af.pow ⟨pa, pc⟩ (x.toNat / 2 ^ 0)).c)).toNat)]) rw_37 F H rfl rfl rfl rfl rfl) (Sx.wanted_none rfl _) rfl (by decide) (fun A F => ?_)
    refine Sx.ss F (Sx.d_store (i := 1) (xs := [.int .u64 ((Wd.hi ((Af.pow ⟨pa, pc⟩ (x.toNat / 2 ^ 0)).a)).toNat), .int .u64 ((Wd.lo ((Af.pow ⟨pa, pc⟩ (x.toNat / 2 ^ 0)).a)).toNat), .int .u64 ((Wd.hi ((Af.pow ⟨pa, pc⟩ (x.toNat / 2 ^ 0)).c)).toNat), .int .u64 ((Wd.lo ((Af.pow ⟨pa, pc⟩ (x.toNat / 2 ^ 0)).c)).toNat)]) (us := [.int .u64 ((Wd.hi ((Af.pow ⟨pa, pc⟩ (x.toNat / 2 ^ 0)).a)).toNat), .int .u64 ((Wd.lo ((Af.pow ⟨pa, pc⟩ (x.toNat / 2 ^ 0)).a)).toNat), .int .u64 ((Wd.hi ((Af.pow ⟨pa, pc⟩ (x.toNat / 2 ^ 0)).c)).toNat), .int .u64 ((Wd.lo ((Af.pow ⟨pa, pc⟩ (x.toNat / 2 ^ 0)).c)).toNat)]) sz_37 F H rfl rfl rfl rfl rfl rfl rfl (Nat.le_of_ble_eq_true rfl) rfl) (Sx.wanted_none rfl _) rfl (fun A w F (H : Sx.Own w0 _ [(true, g4, [.int .u64 ((Wd.hi ((Af.pow ⟨pa, pc⟩ (x.toNat / 2 ^ 0)).a)).toNat), .int .u64 ((Wd.lo ((Af.pow ⟨pa, pc⟩ (x.toNat / 2 ^ 0)).a)).toNat), .int .u64 ((Wd.hi ((Af.pow ⟨pa, pc⟩ (x.toNat / 2 ^ 0)).c)).toNat), .int .u64 ((Wd.lo ((Af.pow ⟨pa, pc⟩ (x.toNat / 2 ^ 0)).c)).toNat)]), (true, g3, [.int .u64 ((Wd.hi ((Af.pow ⟨pa, pc⟩ (x.toNat / 2 ^ 0)).a)).toNat), .int .u64 ((Wd.lo ((Af.pow ⟨pa, pc⟩ (x.toNat / 2 ^ 0)).a)).toNat), .int .u64 ((Wd.hi ((Af.pow ⟨pa, pc⟩ (x.toNat / 2 ^ 0)).c)).toNat), .int .u64 ((Wd.lo ((Af.pow ⟨pa, pc⟩ (x.toNat / 2 ^ 0)).c)).toNat)]), (true, g2, [.int .u64 ((Wd.hi x).toNat), .int .u64 ((Wd.lo x).toNat)]), (true, g1, [.int .u64 ((Wd.hi pa).toNat), .int .u64 ((Wd.lo pa).toNat), .int .u64 ((Wd.hi pc).toNat), .int .u64 ((Wd.lo pc).toNat)])] [⟨true, .slice (some ⟨lg, 0, none⟩) 128 lc, 3, 1, 128, (Bi.bis (BitVec.getLsbD x) 128)⟩]) => ?_)
    refine Sx.nil ?_
    refine hK8 _ _ ?_
    refine wp_ret ?_
    try dsimp only [Exit.then, Exit.inBlock, Exit.jump]
    refine Sx.ret1 F Try.results25 (Sx.res_row (i := 1) (xs := [.int .u64 ((Wd.hi ((Af.pow ⟨pa, pc⟩ (x.toNat / 2 ^ 0)).a)).toNat), .int .u64 ((Wd.lo ((Af.pow ⟨pa, pc⟩ (x.toNat / 2 ^ 0)).a)).toNat), .int .u64 ((Wd.hi ((Af.pow ⟨pa, pc⟩ (x.toNat / 2 ^ 0)).c)).toNat), .int .u64 ((Wd.lo ((Af.pow ⟨pa, pc⟩ (x.toNat / 2 ^ 0)).c)).toNat)]) rw_37 F H rfl rfl rfl rfl) ⟨?_, H.below⟩
    rw [show x.toNat / 2 ^ 0 = x.toNat from by simp]
  · cases hb : x.getLsbD t
    · skip
      refine Sx.seq (fun K9 hK9 => ?_)
      refine Sx.seq (fun K10 hK10 => ?_)
      refine Sx.plain ?_
      refine Sx.sv F (Sx.d_move F (Or.inl rfl) rfl) (Sx.wanted_none rfl _) rfl (by decide) (fun A F => ?_)
      refine Sx.sv F (Sx.d_bin (v := .bool true) F rfl rfl rfl (Sx.i_ge (decide_eq_true (by omega)))) (Sx.wanted_none rfl _) rfl (by decide) (fun A F => ?_)
      refine Sx.nil ?_
      refine hK10 _ _ ?_
      refine Sx.condT F rfl ?_
      refine wp_skip ?_
      refine hK9 _ _ ?_
      refine Sx.seq (fun K11 hK11 => ?_)
      refine wp_block ?_
      refine Sx.seq (fun K12 hK12 => ?_)
      refine Sx.plain ?_
      refine Sx.sv F (Sx.d_load (i := 0) (xs := [.int .u64 ((Wd.hi ((Af.pow ⟨pa, pc⟩ (x.toNat / 2 ^ (t + 1))).a)).toNat), .int .u64 ((Wd.lo ((Af.pow ⟨pa, pc⟩ (x.toNat / 2 ^ (t + 1))).a)).toNat), .int .u64 ((Wd.hi ((Af.pow ⟨pa, pc⟩ (x.toNat / 2 ^ (t + 1))).c)).toNat), .int .u64 ((Wd.lo ((Af.pow ⟨pa, pc⟩ (x.toNat / 2 ^ (t + 1))).c)).toNat)]) rw_37 F H rfl rfl rfl rfl rfl) (Sx.wanted_none rfl _) rfl (by decide) (fun A F => ?_)
      refine Sx.sv F (Sx.d_load (i := 0) (xs := [.int .u64 ((Wd.hi ((Af.pow ⟨pa, pc⟩ (x.toNat / 2 ^ (t + 1))).a)).toNat), .int .u64 ((Wd.lo ((Af.pow ⟨pa, pc⟩ (x.toNat / 2 ^ (t + 1))).a)).toNat), .int .u64 ((Wd.hi ((Af.pow ⟨pa, pc⟩ (x.toNat / 2 ^ (t + 1))).c)).toNat), .int .u64 ((Wd.lo ((Af.pow ⟨pa, pc⟩ (x.toNat / 2 ^ (t + 1))).c)).toNat)]) rw_37 F H rfl rfl rfl rfl rfl) (Sx.wanted_none rfl _) rfl (by decide) (fun A F => ?_)
      refine Sx.sw F (Sx.d_call (vs := [.agg #[.int .u64 ((Wd.hi ((Af.pow ⟨pa, pc⟩ (x.toNat / 2 ^ (t + 1))).a)).toNat), .int .u64 ((Wd.lo ((Af.pow ⟨pa, pc⟩ (x.toNat / 2 ^ (t + 1))).a)).toNat), .int .u64 ((Wd.hi ((Af.pow ⟨pa, pc⟩ (x.toNat / 2 ^ (t + 1))).c)).toNat), .int .u64 ((Wd.lo ((Af.pow ⟨pa, pc⟩ (x.toNat / 2 ^ (t + 1))).c)).toNat)], .agg #[.int .u64 ((Wd.hi ((Af.pow ⟨pa, pc⟩ (x.toNat / 2 ^ (t + 1))).a)).toNat), .int .u64 ((Wd.lo ((Af.pow ⟨pa, pc⟩ (x.toNat / 2 ^ (t + 1))).a)).toNat), .int .u64 ((Wd.hi ((Af.pow ⟨pa, pc⟩ (x.toNat / 2 ^ (t + 1))).c)).toNat), .int .u64 ((Wd.lo ((Af.pow ⟨pa, pc⟩ (x.toNat / 2 ^ (t + 1))).c)).toNat)]]) (v := .agg #[.int .u64 ((Wd.hi (((Af.pow ⟨pa, pc⟩ (x.toNat / 2 ^ (t + 1))).a) * ((Af.pow ⟨pa, pc⟩ (x.toNat / 2 ^ (t + 1))).a))).toNat), .int .u64 ((Wd.lo (((Af.pow ⟨pa, pc⟩ (x.toNat / 2 ^ (t + 1))).a) * ((Af.pow ⟨pa, pc⟩ (x.toNat / 2 ^ (t + 1))).a))).toNat), .int .u64 ((Wd.hi (((Af.pow ⟨pa, pc⟩ (x.toNat / 2 ^ (t + 1))).a) * ((Af.pow ⟨pa, pc⟩ (x.toNat / 2 ^ (t + 1))).c) + ((Af.pow ⟨pa, pc⟩ (x.toNat / 2 ^ (t + 1))).c))).toNat), .int .u64 ((Wd.lo (((Af.pow ⟨pa, pc⟩ (x.toNat / 2 ^ (t + 1))).a) * ((Af.pow ⟨pa, pc⟩ (x.toNat / 2 ^ (t + 1))).c) + ((Af.pow ⟨pa, pc⟩ (x.toNat / 2 ^ (t + 1))).c))).toNat)]) if_19 F H rfl rfl (rthen9_c ((Af.pow ⟨pa, pc⟩ (x.toNat / 2 ^ (t + 1))).a) ((Af.pow ⟨pa, pc⟩ (x.toNat / 2 ^ (t + 1))).c) ((Af.pow ⟨pa, pc⟩ (x.toNat / 2 ^ (t + 1))).a) ((Af.pow ⟨pa, pc⟩ (x.toNat / 2 ^ (t + 1))).c) _)) (Sx.wanted_none rfl _) rfl (by decide) (fun A w F H => ?_)
      refine Sx.ss F (Sx.d_store (i := 0) (xs := [.int .u64 ((Wd.hi (((Af.pow ⟨pa, pc⟩ (x.toNat / 2 ^ (t + 1))).a) * ((Af.pow ⟨pa, pc⟩ (x.toNat / 2 ^ (t + 1))).a))).toNat), .int .u64 ((Wd.lo (((Af.pow ⟨pa, pc⟩ (x.toNat / 2 ^ (t + 1))).a) * ((Af.pow ⟨pa, pc⟩ (x.toNat / 2 ^ (t + 1))).a))).toNat), .int .u64 ((Wd.hi (((Af.pow ⟨pa, pc⟩ (x.toNat / 2 ^ (t + 1))).a) * ((Af.pow ⟨pa, pc⟩ (x.toNat / 2 ^ (t + 1))).c) + ((Af.pow ⟨pa, pc⟩ (x.toNat / 2 ^ (t + 1))).c))).toNat), .int .u64 ((Wd.lo (((Af.pow ⟨pa, pc⟩ (x.toNat / 2 ^ (t + 1))).a) * ((Af.pow ⟨pa, pc⟩ (x.toNat / 2 ^ (t + 1))).c) + ((Af.pow ⟨pa, pc⟩ (x.toNat / 2 ^ (t + 1))).c))).toNat)]) (us := [.int .u64 ((Wd.hi (((Af.pow ⟨pa, pc⟩ (x.toNat / 2 ^ (t + 1))).a) * ((Af.pow ⟨pa, pc⟩ (x.toNat / 2 ^ (t + 1))).a))).toNat), .int .u64 ((Wd.lo (((Af.pow ⟨pa, pc⟩ (x.toNat / 2 ^ (t + 1))).a) * ((Af.pow ⟨pa, pc⟩ (x.toNat / 2 ^ (t + 1))).a))).toNat), .int .u64 ((Wd.hi (((Af.pow ⟨pa, pc⟩ (x.toNat / 2 ^ (t + 1))).a) * ((Af.pow ⟨pa, pc⟩ (x.toNat / 2 ^ (t + 1))).c) + ((Af.pow ⟨pa, pc⟩ (x.toNat / 2 ^ (t + 1))).c))).toNat), .int .u64 ((Wd.lo (((Af.pow ⟨pa, pc⟩ (x.toNat / 2 ^ (t + 1))).a) * ((Af.pow ⟨pa, pc⟩ (x.toNat / 2 ^ (t + 1))).c) + ((Af.pow ⟨pa, pc⟩ (x.toNat / 2 ^ (t + 1))).c))).toNat)]) sz_37 F H rfl rfl rfl rfl rfl rfl rfl (Nat.le_of_ble_eq_true rfl) rfl) (Sx.wanted_none rfl _) rfl (fun A w F (H : Sx.Own w0 _ [(true, g4, [.int .u64 ((Wd.hi (((Af.pow ⟨pa, pc⟩ (x.toNat / 2 ^ (t + 1))).a) * ((Af.pow ⟨pa, pc⟩ (x.toNat / 2 ^ (t + 1))).a))).toNat), .int .u64 ((Wd.lo (((Af.pow ⟨pa, pc⟩ (x.toNat / 2 ^ (t + 1))).a) * ((Af.pow ⟨pa, pc⟩ (x.toNat / 2 ^ (t + 1))).a))).toNat), .int .u64 ((Wd.hi (((Af.pow ⟨pa, pc⟩ (x.toNat / 2 ^ (t + 1))).a) * ((Af.pow ⟨pa, pc⟩ (x.toNat / 2 ^ (t + 1))).c) + ((Af.pow ⟨pa, pc⟩ (x.toNat / 2 ^ (t + 1))).c))).toNat), .int .u64 ((Wd.lo (((Af.pow ⟨pa, pc⟩ (x.toNat / 2 ^ (t + 1))).a) * ((Af.pow ⟨pa, pc⟩ (x.toNat / 2 ^ (t + 1))).c) + ((Af.pow ⟨pa, pc⟩ (x.toNat / 2 ^ (t + 1))).c))).toNat)]), (true, g3, [.int .u64 ((Wd.hi 0#128).toNat), .int .u64 ((Wd.lo 0#128).toNat), .int .u64 ((Wd.hi 0#128).toNat), .int .u64 ((Wd.lo 0#128).toNat)]), (true, g2, [.int .u64 ((Wd.hi x).toNat), .int .u64 ((Wd.lo x).toNat)]), (true, g1, [.int .u64 ((Wd.hi pa).toNat), .int .u64 ((Wd.lo pa).toNat), .int .u64 ((Wd.hi pc).toNat), .int .u64 ((Wd.lo pc).toNat)])] [⟨true, .slice (some ⟨lg, 0, none⟩) 128 lc, 3, 1, 128, (Bi.bis (BitVec.getLsbD x) 128)⟩]) => ?_)
      refine Sx.nil ?_
      refine hK12 _ _ ?_
      refine Sx.seq (fun K13 hK13 => ?_)
      refine Sx.plain ?_
      refine Sx.sv F (Sx.d_move F (Or.inl rfl) rfl) (Sx.wanted_none rfl _) rfl (by decide) (fun A F => ?_)
      refine Sx.sv F (Sx.d_move F (Or.inl rfl) rfl) (Sx.wanted_none rfl _) rfl (by decide) (fun A F => ?_)
      refine Sx.sv F (Sx.d_ixR (k := t) el_110 F rfl rfl rfl (by omega) (by omega)) (Sx.wanted_none rfl _) rfl (by decide) (fun A F => ?_)
      refine Sx.sv F (Sx.d_loadR (i := 0) (v := .int .i64 ((x.getLsbD t).toNat)) one_3 F H rfl rfl rfl (Bi.at_ _ _ _ (by omega))) (Sx.wanted_none rfl _) rfl (by decide) (fun A F => ?_)
      refine Sx.sv F (Sx.d_bin (v := .bool false) F rfl rfl rfl (Sx.i_eq (by rw [hb]; rfl))) (Sx.wanted_none rfl _) rfl (by decide) (fun A F => ?_)
      refine Sx.nil ?_
      refine hK13 _ _ ?_
      refine Sx.condF F rfl ?_
      refine wp_skip ?_
      refine hK11 _ _ ?_
      refine Sx.plain ?_
      refine Sx.sv F (Sx.d_move F (Or.inl rfl) rfl) (Sx.wanted_none rfl _) rfl (by decide) (fun A F => ?_)
      refine Sx.sv F (Sx.d_bin (v := .int .i64 (((t : Nat) : Int) - 1)) F rfl rfl rfl (Sx.i_subS (by rw [Sx.in64 _ (by omega)]; omega))) (Sx.wanted_none rfl _) rfl (by decide) (fun A F => ?_)
      refine Sx.sv F (Sx.d_move F (Or.inr rfl) rfl) (Sx.wanted_none rfl _) rfl (by decide) (fun A F => ?_)
      refine Sx.nil ?_
      try dsimp only [Exit.then]
      exact ⟨t, by omega, by omega, F.to ⟨rfl, rfl, rfl, rfl, rfl, trivial⟩, by rw [← Bi.pow_dbl0 ⟨pa, pc⟩ x t hb]; exact H⟩
    · skip
      refine Sx.seq (fun K14 hK14 => ?_)
      refine Sx.seq (fun K15 hK15 => ?_)
      refine Sx.plain ?_
      refine Sx.sv F (Sx.d_move F (Or.inl rfl) rfl) (Sx.wanted_none rfl _) rfl (by decide) (fun A F => ?_)
      refine Sx.sv F (Sx.d_bin (v := .bool true) F rfl rfl rfl (Sx.i_ge (decide_eq_true (by omega)))) (Sx.wanted_none rfl _) rfl (by decide) (fun A F => ?_)
      refine Sx.nil ?_
      refine hK15 _ _ ?_
      refine Sx.condT F rfl ?_
      refine wp_skip ?_
      refine hK14 _ _ ?_
      refine Sx.seq (fun K16 hK16 => ?_)
      refine wp_block ?_
      refine Sx.seq (fun K17 hK17 => ?_)
      refine Sx.plain ?_
      refine Sx.sv F (Sx.d_load (i := 0) (xs := [.int .u64 ((Wd.hi ((Af.pow ⟨pa, pc⟩ (x.toNat / 2 ^ (t + 1))).a)).toNat), .int .u64 ((Wd.lo ((Af.pow ⟨pa, pc⟩ (x.toNat / 2 ^ (t + 1))).a)).toNat), .int .u64 ((Wd.hi ((Af.pow ⟨pa, pc⟩ (x.toNat / 2 ^ (t + 1))).c)).toNat), .int .u64 ((Wd.lo ((Af.pow ⟨pa, pc⟩ (x.toNat / 2 ^ (t + 1))).c)).toNat)]) rw_37 F H rfl rfl rfl rfl rfl) (Sx.wanted_none rfl _) rfl (by decide) (fun A F => ?_)
      refine Sx.sv F (Sx.d_load (i := 0) (xs := [.int .u64 ((Wd.hi ((Af.pow ⟨pa, pc⟩ (x.toNat / 2 ^ (t + 1))).a)).toNat), .int .u64 ((Wd.lo ((Af.pow ⟨pa, pc⟩ (x.toNat / 2 ^ (t + 1))).a)).toNat), .int .u64 ((Wd.hi ((Af.pow ⟨pa, pc⟩ (x.toNat / 2 ^ (t + 1))).c)).toNat), .int .u64 ((Wd.lo ((Af.pow ⟨pa, pc⟩ (x.toNat / 2 ^ (t + 1))).c)).toNat)]) rw_37 F H rfl rfl rfl rfl rfl) (Sx.wanted_none rfl _) rfl (by decide) (fun A F => ?_)
      refine Sx.sw F (Sx.d_call (vs := [.agg #[.int .u64 ((Wd.hi ((Af.pow ⟨pa, pc⟩ (x.toNat / 2 ^ (t + 1))).a)).toNat), .int .u64 ((Wd.lo ((Af.pow ⟨pa, pc⟩ (x.toNat / 2 ^ (t + 1))).a)).toNat), .int .u64 ((Wd.hi ((Af.pow ⟨pa, pc⟩ (x.toNat / 2 ^ (t + 1))).c)).toNat), .int .u64 ((Wd.lo ((Af.pow ⟨pa, pc⟩ (x.toNat / 2 ^ (t + 1))).c)).toNat)], .agg #[.int .u64 ((Wd.hi ((Af.pow ⟨pa, pc⟩ (x.toNat / 2 ^ (t + 1))).a)).toNat), .int .u64 ((Wd.lo ((Af.pow ⟨pa, pc⟩ (x.toNat / 2 ^ (t + 1))).a)).toNat), .int .u64 ((Wd.hi ((Af.pow ⟨pa, pc⟩ (x.toNat / 2 ^ (t + 1))).c)).toNat), .int .u64 ((Wd.lo ((Af.pow ⟨pa, pc⟩ (x.toNat / 2 ^ (t + 1))).c)).toNat)]]) (v := .agg #[.int .u64 ((Wd.hi (((Af.pow ⟨pa, pc⟩ (x.toNat / 2 ^ (t + 1))).a) * ((Af.pow ⟨pa, pc⟩ (x.toNat / 2 ^ (t + 1))).a))).toNat), .int .u64 ((Wd.lo (((Af.pow ⟨pa, pc⟩ (x.toNat / 2 ^ (t + 1))).a) * ((Af.pow ⟨pa, pc⟩ (x.toNat / 2 ^ (t + 1))).a))).toNat), .int .u64 ((Wd.hi (((Af.pow ⟨pa, pc⟩ (x.toNat / 2 ^ (t + 1))).a) * ((Af.pow ⟨pa, pc⟩ (x.toNat / 2 ^ (t + 1))).c) + ((Af.pow ⟨pa, pc⟩ (x.toNat / 2 ^ (t + 1))).c))).toNat), .int .u64 ((Wd.lo (((Af.pow ⟨pa, pc⟩ (x.toNat / 2 ^ (t + 1))).a) * ((Af.pow ⟨pa, pc⟩ (x.toNat / 2 ^ (t + 1))).c) + ((Af.pow ⟨pa, pc⟩ (x.toNat / 2 ^ (t + 1))).c))).toNat)]) if_19 F H rfl rfl (rthen9_c ((Af.pow ⟨pa, pc⟩ (x.toNat / 2 ^ (t + 1))).a) ((Af.pow ⟨pa, pc⟩ (x.toNat / 2 ^ (t + 1))).c) ((Af.pow ⟨pa, pc⟩ (x.toNat / 2 ^ (t + 1))).a) ((Af.pow ⟨pa, pc⟩ (x.toNat / 2 ^ (t + 1))).c) _)) (Sx.wanted_none rfl _) rfl (by decide) (fun A w F H => ?_)
      refine Sx.ss F (Sx.d_store (i := 0) (xs := [.int .u64 ((Wd.hi (((Af.pow ⟨pa, pc⟩ (x.toNat / 2 ^ (t + 1))).a) * ((Af.pow ⟨pa, pc⟩ (x.toNat / 2 ^ (t + 1))).a))).toNat), .int .u64 ((Wd.lo (((Af.pow ⟨pa, pc⟩ (x.toNat / 2 ^ (t + 1))).a) * ((Af.pow ⟨pa, pc⟩ (x.toNat / 2 ^ (t + 1))).a))).toNat), .int .u64 ((Wd.hi (((Af.pow ⟨pa, pc⟩ (x.toNat / 2 ^ (t + 1))).a) * ((Af.pow ⟨pa, pc⟩ (x.toNat / 2 ^ (t + 1))).c) + ((Af.pow ⟨pa, pc⟩ (x.toNat / 2 ^ (t + 1))).c))).toNat), .int .u64 ((Wd.lo (((Af.pow ⟨pa, pc⟩ (x.toNat / 2 ^ (t + 1))).a) * ((Af.pow ⟨pa, pc⟩ (x.toNat / 2 ^ (t + 1))).c) + ((Af.pow ⟨pa, pc⟩ (x.toNat / 2 ^ (t + 1))).c))).toNat)]) (us := [.int .u64 ((Wd.hi (((Af.pow ⟨pa, pc⟩ (x.toNat / 2 ^ (t + 1))).a) * ((Af.pow ⟨pa, pc⟩ (x.toNat / 2 ^ (t + 1))).a))).toNat), .int .u64 ((Wd.lo (((Af.pow ⟨pa, pc⟩ (x.toNat / 2 ^ (t + 1))).a) * ((Af.pow ⟨pa, pc⟩ (x.toNat / 2 ^ (t + 1))).a))).toNat), .int .u64 ((Wd.hi (((Af.pow ⟨pa, pc⟩ (x.toNat / 2 ^ (t + 1))).a) * ((Af.pow ⟨pa, pc⟩ (x.toNat / 2 ^ (t + 1))).c) + ((Af.pow ⟨pa, pc⟩ (x.toNat / 2 ^ (t + 1))).c))).toNat), .int .u64 ((Wd.lo (((Af.pow ⟨pa, pc⟩ (x.toNat / 2 ^ (t + 1))).a) * ((Af.pow ⟨pa, pc⟩ (x.toNat / 2 ^ (t + 1))).c) + ((Af.pow ⟨pa, pc⟩ (x.toNat / 2 ^ (t + 1))).c))).toNat)]) sz_37 F H rfl rfl rfl rfl rfl rfl rfl (Nat.le_of_ble_eq_true rfl) rfl) (Sx.wanted_none rfl _) rfl (fun A w F (H : Sx.Own w0 _ [(true, g4, [.int .u64 ((Wd.hi (((Af.pow ⟨pa, pc⟩ (x.toNat / 2 ^ (t + 1))).a) * ((Af.pow ⟨pa, pc⟩ (x.toNat / 2 ^ (t + 1))).a))).toNat), .int .u64 ((Wd.lo (((Af.pow ⟨pa, pc⟩ (x.toNat / 2 ^ (t + 1))).a) * ((Af.pow ⟨pa, pc⟩ (x.toNat / 2 ^ (t + 1))).a))).toNat), .int .u64 ((Wd.hi (((Af.pow ⟨pa, pc⟩ (x.toNat / 2 ^ (t + 1))).a) * ((Af.pow ⟨pa, pc⟩ (x.toNat / 2 ^ (t + 1))).c) + ((Af.pow ⟨pa, pc⟩ (x.toNat / 2 ^ (t + 1))).c))).toNat), .int .u64 ((Wd.lo (((Af.pow ⟨pa, pc⟩ (x.toNat / 2 ^ (t + 1))).a) * ((Af.pow ⟨pa, pc⟩ (x.toNat / 2 ^ (t + 1))).c) + ((Af.pow ⟨pa, pc⟩ (x.toNat / 2 ^ (t + 1))).c))).toNat)]), (true, g3, [.int .u64 ((Wd.hi 0#128).toNat), .int .u64 ((Wd.lo 0#128).toNat), .int .u64 ((Wd.hi 0#128).toNat), .int .u64 ((Wd.lo 0#128).toNat)]), (true, g2, [.int .u64 ((Wd.hi x).toNat), .int .u64 ((Wd.lo x).toNat)]), (true, g1, [.int .u64 ((Wd.hi pa).toNat), .int .u64 ((Wd.lo pa).toNat), .int .u64 ((Wd.hi pc).toNat), .int .u64 ((Wd.lo pc).toNat)])] [⟨true, .slice (some ⟨lg, 0, none⟩) 128 lc, 3, 1, 128, (Bi.bis (BitVec.getLsbD x) 128)⟩]) => ?_)
      refine Sx.nil ?_
      refine hK17 _ _ ?_
      refine Sx.seq (fun K18 hK18 => ?_)
      refine Sx.plain ?_
      refine Sx.sv F (Sx.d_move F (Or.inl rfl) rfl) (Sx.wanted_none rfl _) rfl (by decide) (fun A F => ?_)
      refine Sx.sv F (Sx.d_move F (Or.inl rfl) rfl) (Sx.wanted_none rfl _) rfl (by decide) (fun A F => ?_)
      refine Sx.sv F (Sx.d_ixR (k := t) el_110 F rfl rfl rfl (by omega) (by omega)) (Sx.wanted_none rfl _) rfl (by decide) (fun A F => ?_)
      refine Sx.sv F (Sx.d_loadR (i := 0) (v := .int .i64 ((x.getLsbD t).toNat)) one_3 F H rfl rfl rfl (Bi.at_ _ _ _ (by omega))) (Sx.wanted_none rfl _) rfl (by decide) (fun A F => ?_)
      refine Sx.sv F (Sx.d_bin (v := .bool true) F rfl rfl rfl (Sx.i_eq (by rw [hb]; rfl))) (Sx.wanted_none rfl _) rfl (by decide) (fun A F => ?_)
      refine Sx.nil ?_
      refine hK18 _ _ ?_
      refine Sx.condT F rfl ?_
      refine Sx.plain ?_
      refine Sx.sv F (Sx.d_load (i := 0) (xs := [.int .u64 ((Wd.hi (((Af.pow ⟨pa, pc⟩ (x.toNat / 2 ^ (t + 1))).a) * ((Af.pow ⟨pa, pc⟩ (x.toNat / 2 ^ (t + 1))).a))).toNat), .int .u64 ((Wd.lo (((Af.pow ⟨pa, pc⟩ (x.toNat / 2 ^ (t + 1))).a) * ((Af.pow ⟨pa, pc⟩ (x.toNat / 2 ^ (t + 1))).a))).toNat), .int .u64 ((Wd.hi (((Af.pow ⟨pa, pc⟩ (x.toNat / 2 ^ (t + 1))).a) * ((Af.pow ⟨pa, pc⟩ (x.toNat / 2 ^ (t + 1))).c) + ((Af.pow ⟨pa, pc⟩ (x.toNat / 2 ^ (t + 1))).c))).toNat), .int .u64 ((Wd.lo (((Af.pow ⟨pa, pc⟩ (x.toNat / 2 ^ (t + 1))).a) * ((Af.pow ⟨pa, pc⟩ (x.toNat / 2 ^ (t + 1))).c) + ((Af.pow ⟨pa, pc⟩ (x.toNat / 2 ^ (t + 1))).c))).toNat)]) rw_37 F H rfl rfl rfl rfl rfl) (Sx.wanted_none rfl _) rfl (by decide) (fun A F => ?_)
      refine Sx.sv F (Sx.d_load (i := 3) (xs := [.int .u64 ((Wd.hi pa).toNat), .int .u64 ((Wd.lo pa).toNat), .int .u64 ((Wd.hi pc).toNat), .int .u64 ((Wd.lo pc).toNat)]) rw_37 F H rfl rfl rfl rfl rfl) (Sx.wanted_none rfl _) rfl (by decide) (fun A F => ?_)
      refine Sx.sw F (Sx.d_call (vs := [.agg #[.int .u64 ((Wd.hi (((Af.pow ⟨pa, pc⟩ (x.toNat / 2 ^ (t + 1))).a) * ((Af.pow ⟨pa, pc⟩ (x.toNat / 2 ^ (t + 1))).a))).toNat), .int .u64 ((Wd.lo (((Af.pow ⟨pa, pc⟩ (x.toNat / 2 ^ (t + 1))).a) * ((Af.pow ⟨pa, pc⟩ (x.toNat / 2 ^ (t + 1))).a))).toNat), .int .u64 ((Wd.hi (((Af.pow ⟨pa, pc⟩ (x.toNat / 2 ^ (t + 1))).a) * ((Af.pow ⟨pa, pc⟩ (x.toNat / 2 ^ (t + 1))).c) + ((Af.pow ⟨pa, pc⟩ (x.toNat / 2 ^ (t + 1))).c))).toNat), .int .u64 ((Wd.lo (((Af.pow ⟨pa, pc⟩ (x.toNat / 2 ^ (t + 1))).a) * ((Af.pow ⟨pa, pc⟩ (x.toNat / 2 ^ (t + 1))).c) + ((Af.pow ⟨pa, pc⟩ (x.toNat / 2 ^ (t + 1))).c))).toNat)], .agg #[.int .u64 ((Wd.hi pa).toNat), .int .u64 ((Wd.lo pa).toNat), .int .u64 ((Wd.hi pc).toNat), .int .u64 ((Wd.lo pc).toNat)]]) (v := .agg #[.int .u64 ((Wd.hi (pa * (((Af.pow ⟨pa, pc⟩ (x.toNat / 2 ^ (t + 1))).a) * ((Af.pow ⟨pa, pc⟩ (x.toNat / 2 ^ (t + 1))).a)))).toNat), .int .u64 ((Wd.lo (pa * (((Af.pow ⟨pa, pc⟩ (x.toNat / 2 ^ (t + 1))).a) * ((Af.pow ⟨pa, pc⟩ (x.toNat / 2 ^ (t + 1))).a)))).toNat), .int .u64 ((Wd.hi (pa * (((Af.pow ⟨pa, pc⟩ (x.toNat / 2 ^ (t + 1))).a) * ((Af.pow ⟨pa, pc⟩ (x.toNat / 2 ^ (t + 1))).c) + ((Af.pow ⟨pa, pc⟩ (x.toNat / 2 ^ (t + 1))).c)) + pc)).toNat), .int .u64 ((Wd.lo (pa * (((Af.pow ⟨pa, pc⟩ (x.toNat / 2 ^ (t + 1))).a) * ((Af.pow ⟨pa, pc⟩ (x.toNat / 2 ^ (t + 1))).c) + ((Af.pow ⟨pa, pc⟩ (x.toNat / 2 ^ (t + 1))).c)) + pc)).toNat)]) if_19 F H rfl rfl (rthen9_c (((Af.pow ⟨pa, pc⟩ (x.toNat / 2 ^ (t + 1))).a) * ((Af.pow ⟨pa, pc⟩ (x.toNat / 2 ^ (t + 1))).a)) (((Af.pow ⟨pa, pc⟩ (x.toNat / 2 ^ (t + 1))).a) * ((Af.pow ⟨pa, pc⟩ (x.toNat / 2 ^ (t + 1))).c) + ((Af.pow ⟨pa, pc⟩ (x.toNat / 2 ^ (t + 1))).c)) pa pc _)) (Sx.wanted_none rfl _) rfl (by decide) (fun A w F H => ?_)
      refine Sx.ss F (Sx.d_store (i := 0) (xs := [.int .u64 ((Wd.hi (pa * (((Af.pow ⟨pa, pc⟩ (x.toNat / 2 ^ (t + 1))).a) * ((Af.pow ⟨pa, pc⟩ (x.toNat / 2 ^ (t + 1))).a)))).toNat), .int .u64 ((Wd.lo (pa * (((Af.pow ⟨pa, pc⟩ (x.toNat / 2 ^ (t + 1))).a) * ((Af.pow ⟨pa, pc⟩ (x.toNat / 2 ^ (t + 1))).a)))).toNat), .int .u64 ((Wd.hi (pa * (((Af.pow ⟨pa, pc⟩ (x.toNat / 2 ^ (t + 1))).a) * ((Af.pow ⟨pa, pc⟩ (x.toNat / 2 ^ (t + 1))).c) + ((Af.pow ⟨pa, pc⟩ (x.toNat / 2 ^ (t + 1))).c)) + pc)).toNat), .int .u64 ((Wd.lo (pa * (((Af.pow ⟨pa, pc⟩ (x.toNat / 2 ^ (t + 1))).a) * ((Af.pow ⟨pa, pc⟩ (x.toNat / 2 ^ (t + 1))).c) + ((Af.pow ⟨pa, pc⟩ (x.toNat / 2 ^ (t + 1))).c)) + pc)).toNat)]) (us := [.int .u64 ((Wd.hi (pa * (((Af.pow ⟨pa, pc⟩ (x.toNat / 2 ^ (t + 1))).a) * ((Af.pow ⟨pa, pc⟩ (x.toNat / 2 ^ (t + 1))).a)))).toNat), .int .u64 ((Wd.lo (pa * (((Af.pow ⟨pa, pc⟩ (x.toNat / 2 ^ (t + 1))).a) * ((Af.pow ⟨pa, pc⟩ (x.toNat / 2 ^ (t + 1))).a)))).toNat), .int .u64 ((Wd.hi (pa * (((Af.pow ⟨pa, pc⟩ (x.toNat / 2 ^ (t + 1))).a) * ((Af.pow ⟨pa, pc⟩ (x.toNat / 2 ^ (t + 1))).c) + ((Af.pow ⟨pa, pc⟩ (x.toNat / 2 ^ (t + 1))).c)) + pc)).toNat), .int .u64 ((Wd.lo (pa * (((Af.pow ⟨pa, pc⟩ (x.toNat / 2 ^ (t + 1))).a) * ((Af.pow ⟨pa, pc⟩ (x.toNat / 2 ^ (t + 1))).c) + ((Af.pow ⟨pa, pc⟩ (x.toNat / 2 ^ (t + 1))).c)) + pc)).toNat)]) sz_37 F H rfl rfl rfl rfl rfl rfl rfl (Nat.le_of_ble_eq_true rfl) rfl) (Sx.wanted_none rfl _) rfl (fun A w F (H : Sx.Own w0 _ [(true, g4, [.int .u64 ((Wd.hi (pa * (((Af.pow ⟨pa, pc⟩ (x.toNat / 2 ^ (t + 1))).a) * ((Af.pow ⟨pa, pc⟩ (x.toNat / 2 ^ (t + 1))).a)))).toNat), .int .u64 ((Wd.lo (pa * (((Af.pow ⟨pa, pc⟩ (x.toNat / 2 ^ (t + 1))).a) * ((Af.pow ⟨pa, pc⟩ (x.toNat / 2 ^ (t + 1))).a)))).toNat), .int .u64 ((Wd.hi (pa * (((Af.pow ⟨pa, pc⟩ (x.toNat / 2 ^ (t + 1))).a) * ((Af.pow ⟨pa, pc⟩ (x.toNat / 2 ^ (t + 1))).c) + ((Af.pow ⟨pa, pc⟩ (x.toNat / 2 ^ (t + 1))).c)) + pc)).toNat), .int .u64 ((Wd.lo (pa * (((Af.pow ⟨pa, pc⟩ (x.toNat / 2 ^ (t + 1))).a) * ((Af.pow ⟨pa, pc⟩ (x.toNat / 2 ^ (t + 1))).c) + ((Af.pow ⟨pa, pc⟩ (x.toNat / 2 ^ (t + 1))).c)) + pc)).toNat)]), (true, g3, [.int .u64 ((Wd.hi 0#128).toNat), .int .u64 ((Wd.lo 0#128).toNat), .int .u64 ((Wd.hi 0#128).toNat), .int .u64 ((Wd.lo 0#128).toNat)]), (true, g2, [.int .u64 ((Wd.hi x).toNat), .int .u64 ((Wd.lo x).toNat)]), (true, g1, [.int .u64 ((Wd.hi pa).toNat), .int .u64 ((Wd.lo pa).toNat), .int .u64 ((Wd.hi pc).toNat), .int .u64 ((Wd.lo pc).toNat)])] [⟨true, .slice (some ⟨lg, 0, none⟩) 128 lc, 3, 1, 128, (Bi.bis (BitVec.getLsbD x) 128)⟩]) => ?_)
      refine Sx.nil ?_
      refine hK16 _ _ ?_
      refine Sx.plain ?_
      refine Sx.sv F (Sx.d_move F (Or.inl rfl) rfl) (Sx.wanted_none rfl _) rfl (by decide) (fun A F => ?_)
      refine Sx.sv F (Sx.d_bin (v := .int .i64 (((t : Nat) : Int) - 1)) F rfl rfl rfl (Sx.i_subS (by rw [Sx.in64 _ (by omega)]; omega))) (Sx.wanted_none rfl _) rfl (by decide) (fun A F => ?_)
      refine Sx.sv F (Sx.d_move F (Or.inr rfl) rfl) (Sx.wanted_none rfl _) rfl (by decide) (fun A F => ?_)
      refine Sx.nil ?_
      try dsimp only [Exit.then]
      exact ⟨t, by omega, by omega, F.to ⟨rfl, rfl, rfl, rfl, rfl, trivial⟩, by rw [← Bi.pow_dbl1 ⟨pa, pc⟩ x t hb]; exact H⟩
end Go.Proofs.Ytpbdffmgendboaa
