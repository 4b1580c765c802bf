/- The reference's Len; At, Then, Power of affine walked. -/
import Derived.Test.YtpbdffmgendboabSl4
import Derived.Test.YtpbdffmgendboabLs
import Derived.Test.YtpbdffmgendboabR1M
import Derived.Test.YtpbdffmgendboabR1S
namespace Go.Proofs.Ytpbdffmgendboab
open Go Go.RowKit
theorem Bi.then0 (pa pc qa qc : BitVec 128) : qa * (pa * 0#128 + pc) + qc = qa * pc + qc := by rw [BitVec.mul_zero, BitVec.zero_add]
theorem Bi.then1 (pa pc qa qc : BitVec 128) : qa * (pa * 1#128 + pc) + qc - (qa * (pa * 0#128 + pc) + qc) = qa * pa := by
  rw [BitVec.mul_one, BitVec.mul_zero, BitVec.zero_add, BitVec.mul_add, BitVec.add_assoc]
  exact BitVec.add_sub_cancel _ _
set_option maxRecDepth 100000 in
theorem rlen_c (x : BitVec 128) (w0 : World) : Calls Try.prog 31 #[.agg #[.int .u64 ((Wd.hi x).toNat), .int .u64 ((Wd.lo x).toNat)]] w0 fun e w' => e = .returned (.int .i64 (Bi.len x)) ∧ Below w0.heap.size w0 w' := by
  refine Sx.enter (args := [.agg #[.int .u64 ((Wd.hi x).toNat), .int .u64 ((Wd.lo x).toNat)]]) Try.func31 rfl Try.ntmps31 (Nat.le_of_ble_eq_true rfl) (fun A F => ?_)
  have H := Sx.Own.start w0
  refine Sx.seq (fun K1 hK1 => ?_)
  refine Sx.plain ?_
  refine Sx.sb F (Sx.d_box F H rfl rfl [.int .u64 ((Wd.hi x).toNat), .int .u64 ((Wd.lo x).toNat)] rfl) (Sx.wanted_none rfl _) rfl (by decide) (fun g1 A w F H => ?_)
  refine Sx.sv F (Sx.d_move F (Or.inr rfl) rfl) (Sx.wanted_none rfl _) rfl (by decide) (fun A F => ?_)
  refine Sx.nil ?_
  refine hK1 _ _ ?_
  refine Sx.seq (fun K2 hK2 => ?_)
  refine Sx.plain ?_
  refine Sx.sv F (Sx.d_move F (Or.inr rfl) rfl) (Sx.wanted_none rfl _) rfl (by decide) (fun A F => ?_)
  refine Sx.nil ?_
  refine hK2 _ _ ?_
  refine Sx.seq (fun K3 hK3 => ?_)
  refine Sx.plain ?_
  refine Sx.sv F (Sx.d_load (i := 0) (xs := [.int .u64 ((Wd.hi x).toNat), .int .u64 ((Wd.lo x).toNat)]) rw_43 F H rfl rfl rfl rfl rfl) (Sx.wanted_none rfl _) rfl (by decide) (fun A F => ?_)
  refine Sx.sr (mk := fun v => v) F (Sx.d_callR (vs := [.agg #[.int .u64 ((Wd.hi x).toNat), .int .u64 ((Wd.lo x).toNat)]]) (mk := fun v => v) if_61 F H rfl rfl (rlist_c x _)) (Sx.wanted_none rfl _) rfl (by decide) (fun v1 A w F (H : Sx.Own w0 _ [(true, g1, [.int .u64 ((Wd.hi x).toNat), .int .u64 ((Wd.lo x).toNat)])] [⟨true, v1, 3, 1, 128, (Bi.bis (BitVec.getLsbD x) 128)⟩]) => ?_)
  refine Sx.sv F (Sx.d_move F (Or.inr rfl) rfl) (Sx.wanted_none rfl _) rfl (by decide) (fun A F => ?_)
  refine Sx.nil ?_
  refine hK3 _ _ ?_
  refine Sx.seq (fun K4 hK4 => ?_)
  refine Sx.seq (fun K5 hK5 => ?_)
  refine Sx.plain ?_
  refine Sx.sv F (Sx.d_move F (Or.inr rfl) rfl) (Sx.wanted_none rfl _) rfl (by decide) (fun A F => ?_)
  refine Sx.nil ?_
  refine hK5 _ _ ?_
  refine wp_block ?_
  obtain ⟨lg, lc, rfl, hc1, hc2⟩ := H.open (i := 0) rfl (by omega)
  refine Sx.loop (fun q A w => ∃ i : Nat, q = 128 - i ∧ i ≤ 128 ∧ Sx.Fr 20 A [(4, .slice (some ⟨lg, 0, none⟩) 128 lc), (3, .int .i64 (Bi.lenN x.getLsbD i)), (5, .int .i64 i)] ∧ Sx.Own w0 w [(true, g1, [.int .u64 ((Wd.hi x).toNat), .int .u64 ((Wd.lo x).toNat)])] [⟨true, .slice (some ⟨lg, 0, none⟩) 128 lc, 3, 1, 128, (Bi.bis (BitVec.getLsbD x) 128)⟩]) 128 ⟨0, rfl, Nat.zero_le _, F.to ⟨rfl, rfl, rfl, trivial⟩, H⟩ ?_
  rintro q A w ⟨i, rfl, hi, F, H⟩
  by_cases hlt : i < 128
  · have hn := Bi.lenN_le x.getLsbD i
    cases hb : x.getLsbD i
    · skip
      refine Sx.seq (fun K6 hK6 => ?_)
      refine Sx.seq (fun K7 hK7 => ?_)
      refine Sx.plain ?_
      refine Sx.sv F (Sx.d_move F (Or.inl rfl) rfl) (Sx.wanted_none rfl _) rfl (by decide) (fun A F => ?_)
      refine Sx.sv F (Sx.d_bin (v := .bool true) F rfl rfl rfl (Sx.i_lt (decide_eq_true (by omega)))) (Sx.wanted_none rfl _) rfl (by decide) (fun A F => ?_)
      refine Sx.nil ?_
      refine hK7 _ _ ?_
      refine Sx.condT F rfl ?_
      refine wp_skip ?_
      refine hK6 _ _ ?_
      refine Sx.seq (fun K8 hK8 => ?_)
      refine wp_block ?_
      refine Sx.seq (fun K9 hK9 => ?_)
      refine Sx.plain ?_
      refine Sx.sv F (Sx.d_move F (Or.inl rfl) rfl) (Sx.wanted_none rfl _) rfl (by decide) (fun A F => ?_)
      refine Sx.sv F (Sx.d_move F (Or.inl rfl) rfl) (Sx.wanted_none rfl _) rfl (by decide) (fun A F => ?_)
      refine Sx.sv F (Sx.d_ixR (k := i) el_77 F rfl rfl rfl (rfl) (by omega)) (Sx.wanted_none rfl _) rfl (by decide) (fun A F => ?_)
      refine Sx.sv F (Sx.d_loadR (i := 0) (v := .int .i64 ((x.getLsbD i).toNat)) one_3 F H rfl rfl rfl (Bi.at_ _ _ _ (by omega))) (Sx.wanted_none rfl _) rfl (by decide) (fun A F => ?_)
      refine Sx.sv F (Sx.d_bin (v := .bool false) F rfl rfl rfl (Sx.i_eq (by rw [hb]; rfl))) (Sx.wanted_none rfl _) rfl (by decide) (fun A F => ?_)
      refine Sx.nil ?_
      refine hK9 _ _ ?_
      refine Sx.condF F rfl ?_
      refine wp_skip ?_
      refine hK8 _ _ ?_
      refine Sx.plain ?_
      refine Sx.sv F (Sx.d_move F (Or.inl rfl) rfl) (Sx.wanted_none rfl _) rfl (by decide) (fun A F => ?_)
      refine Sx.sv F (Sx.d_bin (v := .int .i64 (i + 1 : Nat)) F rfl rfl rfl (Sx.i_addN rfl (Sx.in_i64 _ (by omega)))) (Sx.wanted_none rfl _) rfl (by decide) (fun A F => ?_)
      refine Sx.sv F (Sx.d_move F (Or.inr rfl) rfl) (Sx.wanted_none rfl _) rfl (by decide) (fun A F => ?_)
      refine Sx.nil ?_
      try dsimp only [Exit.then]
      refine ⟨128 - (i + 1), by omega, i + 1, rfl, by omega, ?_, H⟩
      have e : Bi.lenN x.getLsbD (i + 1) = Bi.lenN x.getLsbD i := by show (if x.getLsbD i = true then i + 1 else Bi.lenN x.getLsbD i) = _; rw [hb]; rfl
      rw [e]; exact F.to ⟨rfl, rfl, rfl, trivial⟩
    · skip
      refine Sx.seq (fun K10 hK10 => ?_)
      refine Sx.seq (fun K11 hK11 => ?_)
      refine Sx.plain ?_
      refine Sx.sv F (Sx.d_move F (Or.inl rfl) rfl) (Sx.wanted_none rfl _) rfl (by decide) (fun A F => ?_)
      refine Sx.sv F (Sx.d_bin (v := .bool true) F rfl rfl rfl (Sx.i_lt (decide_eq_true (by omega)))) (Sx.wanted_none rfl _) rfl (by decide) (fun A F => ?_)
      refine Sx.nil ?_
      refine hK11 _ _ ?_
      refine Sx.condT F rfl ?_
      refine wp_skip ?_
      refine hK10 _ _ ?_
      refine Sx.seq (fun K12 hK12 => ?_)
      refine wp_block ?_
      refine Sx.seq (fun K13 hK13 => ?_)
      refine Sx.plain ?_
      refine Sx.sv F (Sx.d_move F (Or.inl rfl) rfl) (Sx.wanted_none rfl _) rfl (by decide) (fun A F => ?_)
      refine Sx.sv F (Sx.d_move F (Or.inl rfl) rfl) (Sx.wanted_none rfl _) rfl (by decide) (fun A F => ?_)
      refine Sx.sv F (Sx.d_ixR (k := i) el_77 F rfl rfl rfl (rfl) (by omega)) (Sx.wanted_none rfl _) rfl (by decide) (fun A F => ?_)
      refine Sx.sv F (Sx.d_loadR (i := 0) (v := .int .i64 ((x.getLsbD i).toNat)) one_3 F H rfl rfl rfl (Bi.at_ _ _ _ (by omega))) (Sx.wanted_none rfl _) rfl (by decide) (fun A F => ?_)
      refine Sx.sv F (Sx.d_bin (v := .bool true) F rfl rfl rfl (Sx.i_eq (by rw [hb]; rfl))) (Sx.wanted_none rfl _) rfl (by decide) (fun A F => ?_)
      refine Sx.nil ?_
      refine hK13 _ _ ?_
      refine Sx.condT F rfl ?_
      refine Sx.plain ?_
      refine Sx.sv F (Sx.d_move F (Or.inl rfl) rfl) (Sx.wanted_none rfl _) rfl (by decide) (fun A F => ?_)
      refine Sx.sv F (Sx.d_bin (v := .int .i64 (i + 1 : Nat)) F rfl rfl rfl (Sx.i_addN rfl (Sx.in_i64 _ (by omega)))) (Sx.wanted_none rfl _) rfl (by decide) (fun A F => ?_)
      refine Sx.sv F (Sx.d_move F (Or.inr rfl) rfl) (Sx.wanted_none rfl _) rfl (by decide) (fun A F => ?_)
      refine Sx.nil ?_
      refine hK12 _ _ ?_
      refine Sx.plain ?_
      refine Sx.sv F (Sx.d_move F (Or.inl rfl) rfl) (Sx.wanted_none rfl _) rfl (by decide) (fun A F => ?_)
      refine Sx.sv F (Sx.d_bin (v := .int .i64 (i + 1 : Nat)) F rfl rfl rfl (Sx.i_addN rfl (Sx.in_i64 _ (by omega)))) (Sx.wanted_none rfl _) rfl (by decide) (fun A F => ?_)
      refine Sx.sv F (Sx.d_move F (Or.inr rfl) rfl) (Sx.wanted_none rfl _) rfl (by decide) (fun A F => ?_)
      refine Sx.nil ?_
      try dsimp only [Exit.then]
      refine ⟨128 - (i + 1), by omega, i + 1, rfl, by omega, ?_, H⟩
      have e : Bi.lenN x.getLsbD (i + 1) = i + 1 := by show (if x.getLsbD i = true then i + 1 else Bi.lenN x.getLsbD i) = _; rw [hb]; rfl
      rw [e]; exact F.to ⟨rfl, rfl, rfl, trivial⟩
  · obtain rfl : i = 128 := by omega
    refine Sx.seq (fun K14 hK14 => ?_)
    refine Sx.seq (fun K15 hK15 => ?_)
    refine Sx.plain ?_
    refine Sx.sv F (Sx.d_move F (Or.inl rfl) rfl) (Sx.wanted_none rfl _) rfl (by decide) (fun A F => ?_)
    refine Sx.sv F (Sx.d_bin (v := .bool false) F rfl rfl rfl (Sx.i_lt (by decide))) (Sx.wanted_none rfl _) rfl (by decide) (fun A F => ?_)
    refine Sx.nil ?_
    refine hK15 _ _ ?_
    refine Sx.condF F rfl ?_
    refine wp_exit ?_
    try dsimp only [Exit.then, Exit.jump]
    refine Sx.exit_here ?_
    refine hK4 _ _ ?_
    refine Sx.seq (fun K16 hK16 => ?_)
    refine Sx.plain ?_
    refine Sx.sv F (Sx.d_move F (Or.inl rfl) rfl) (Sx.wanted_none rfl _) rfl (by decide) (fun A F => ?_)
    refine Sx.sv F (Sx.d_move F (Or.inr rfl) rfl) (Sx.wanted_none rfl _) rfl (by decide) (fun A F => ?_)
    refine Sx.nil ?_
    refine hK16 _ _ ?_
    refine wp_ret ?_
    try dsimp only [Exit.then, Exit.inBlock, Exit.jump]
    refine Sx.ret1 F Try.results31 (Sx.res_tmp (v := .int .i64 (Bi.lenN x.getLsbD 128)) F rfl) ⟨?_, H.below⟩
    rfl
end Go.Proofs.Ytpbdffmgendboab
