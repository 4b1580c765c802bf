/- The reference's Odd walked; the law's Own. -/
import Derived.Test.YtpbdffmgendboaaLb
import Derived.Test.YtpbdffmgendboaaOdPlain
import Derived.Test.YtpbdffmgendboaaP9
import Derived.Test.YtpbdffmgendboaaAfB
namespace Go.Proofs.Ytpbdffmgendboaa
open Go Go.RowKit
theorem R9.par (x : BitVec 128) (b : Bool) (h : Af.odd x = b) : ((Wd.lo x % 2#64).toNat : Int) = (b.toNat : Int) := by
  have e := Bi.bit (Wd.lo x) 0
  rw [BitVec.ushiftRight_zero] at e
  rw [e, Wd.lo_bit _ _ (by decide), ← h]; rfl
set_option maxRecDepth 100000 in
theorem own09_c (pa pc : BitVec 128) (w0 : World) : Calls Try.prog 20 #[.agg #[.int .u64 ((Wd.hi pa).toNat), .int .u64 ((Wd.lo pa).toNat), .int .u64 ((Wd.hi pc).toNat), .int .u64 ((Wd.lo pc).toNat)]] w0 fun e w' => e = .returned (.agg #[.int .u64 ((Wd.hi pa).toNat), .int .u64 ((Wd.lo pa).toNat), .int .u64 ((Wd.hi pc).toNat), .int .u64 ((Wd.lo pc).toNat)]) ∧ Below w0.heap.size w0 w' := by
  refine Sx.enter (args := [.agg #[.int .u64 ((Wd.hi pa).toNat), .int .u64 ((Wd.lo pa).toNat), .int .u64 ((Wd.hi pc).toNat), .int .u64 ((Wd.lo pc).toNat)]]) Try.func20 rfl Try.ntmps20 (Nat.le_of_ble_eq_true rfl) (fun A F => ?_)
  have H := Sx.Own.start w0
  refine Sx.seq (fun K1 hK1 => ?_)
  refine Sx.plain ?_
  refine Sx.sb F (Sx.d_box F H rfl rfl [.int .u64 ((Wd.hi pa).toNat), .int .u64 ((Wd.lo pa).toNat), .int .u64 ((Wd.hi pc).toNat), .int .u64 ((Wd.lo pc).toNat)] rfl) (Sx.wanted_none rfl _) rfl (by decide) (fun g1 A w F H => ?_)
  refine Sx.sb F (Sx.d_alloc H rfl [.int .u64 ((Wd.hi 0#128).toNat), .int .u64 ((Wd.lo 0#128).toNat), .int .u64 ((Wd.hi 0#128).toNat), .int .u64 ((Wd.lo 0#128).toNat)] zero_37) (Sx.wanted_none rfl _) rfl (by decide) (fun g2 A w F H => ?_)
  refine Sx.nil ?_
  refine hK1 _ _ ?_
  refine Sx.seq (fun K2 hK2 => ?_)
  refine Sx.plain ?_
  refine Sx.sv F (Sx.d_faddr (v := .pointer (some ⟨g1, 0, none⟩)) F rfl rfl (fa_26_0 _ 0 _)) (Sx.wanted_none rfl _) rfl (by decide) (fun A F => ?_)
  refine Sx.sv F (Sx.d_load (i := 1) (xs := [.int .u64 ((Wd.hi pa).toNat), .int .u64 ((Wd.lo pa).toNat)]) rw_24 F H rfl rfl rfl rfl rfl) (Sx.wanted_none rfl _) rfl (by decide) (fun A F => ?_)
  refine Sx.sv F (Sx.d_faddr (v := .pointer (some ⟨g1, 2, none⟩)) F rfl rfl (fa_26_1 _ 0 _)) (Sx.wanted_none rfl _) rfl (by decide) (fun A F => ?_)
  refine Sx.sv F (Sx.d_load (i := 1) (xs := [.int .u64 ((Wd.hi pc).toNat), .int .u64 ((Wd.lo pc).toNat)]) rw_24 F H rfl rfl rfl rfl rfl) (Sx.wanted_none rfl _) rfl (by decide) (fun A F => ?_)
  refine Sx.sv F (Sx.d_build (qs := #[(0, .agg #[.int .u64 ((Wd.hi pa).toNat), .int .u64 ((Wd.lo pa).toNat)]), (1, .agg #[.int .u64 ((Wd.hi pc).toNat), .int .u64 ((Wd.lo pc).toNat)])]) (v := .agg #[.int .u64 ((Wd.hi pa).toNat), .int .u64 ((Wd.lo pa).toNat), .int .u64 ((Wd.hi pc).toNat), .int .u64 ((Wd.lo pc).toNat)]) F rfl rfl (by kernel_rfl)) (Sx.wanted_none rfl _) rfl (by decide) (fun A F => ?_)
  refine Sx.ss F (Sx.d_store (i := 0) (xs := [.int .u64 ((Wd.hi pa).toNat), .int .u64 ((Wd.lo pa).toNat), .int .u64 ((Wd.hi pc).toNat), .int .u64 ((Wd.lo pc).toNat)]) (us := [.int .u64 ((Wd.hi pa).toNat), .int .u64 ((Wd.lo pa).toNat), .int .u64 ((Wd.hi pc).toNat), .int .u64 ((Wd.lo pc).toNat)]) sz_37 F H rfl rfl rfl rfl rfl rfl rfl (Nat.le_of_ble_eq_true rfl) rfl) (Sx.wanted_none rfl _) rfl (fun A w F (H : Sx.Own w0 _ [(true, g2, [.int .u64 ((Wd.hi pa).toNat), .int .u64 ((Wd.lo pa).toNat), .int .u64 ((Wd.hi pc).toNat), .int .u64 ((Wd.lo pc).toNat)]), (true, g1, [.int .u64 ((Wd.hi pa).toNat), .int .u64 ((Wd.lo pa).toNat), .int .u64 ((Wd.hi pc).toNat), .int .u64 ((Wd.lo pc).toNat)])] []) => ?_)
  refine Sx.nil ?_
  refine hK2 _ _ ?_
  refine wp_ret ?_
  try dsimp only [Exit.then, Exit.inBlock, Exit.jump]
  refine Sx.ret1 F Try.results20 (Sx.res_row (i := 0) (xs := [.int .u64 ((Wd.hi pa).toNat), .int .u64 ((Wd.lo pa).toNat), .int .u64 ((Wd.hi pc).toNat), .int .u64 ((Wd.lo pc).toNat)]) rw_37 F H rfl rfl rfl rfl) ⟨?_, H.below⟩
  rfl
set_option maxRecDepth 100000 in
theorem rodd9_ok (da : BitVec 128) (hn : Af.odd da = true) (w0 : World) : Calls Try.prog 17 #[.agg #[.int .u64 ((Wd.hi da).toNat), .int .u64 ((Wd.lo da).toNat)]] w0 fun e w' => e = .returned (.tuple #[.agg #[.int .u64 ((Wd.hi (Af.inv da)).toNat), .int .u64 ((Wd.lo (Af.inv da)).toNat)], .int .i64 0]) ∧ Below w0.heap.size w0 w' := by
  refine Sx.enter (args := [.agg #[.int .u64 ((Wd.hi da).toNat), .int .u64 ((Wd.lo da).toNat)]]) Try.func17 rfl Try.ntmps17 (Nat.le_of_ble_eq_true rfl) (fun A F => ?_)
  have H := Sx.Own.start w0
  refine Sx.seq (fun K1 hK1 => ?_)
  refine Sx.plain ?_
  refine Sx.sb F (Sx.d_box F H rfl rfl [.int .u64 ((Wd.hi da).toNat), .int .u64 ((Wd.lo da).toNat)] rfl) (Sx.wanted_none rfl _) rfl (by decide) (fun g1 A w F H => ?_)
  refine Sx.sb F (Sx.d_alloc H rfl [.int .u64 ((Wd.hi 0#128).toNat), .int .u64 ((Wd.lo 0#128).toNat)] zero_31) (Sx.wanted_none rfl _) rfl (by decide) (fun g2 A w F H => ?_)
  refine Sx.sv F (Sx.d_move F (Or.inr rfl) rfl) (Sx.wanted_none rfl _) rfl (by decide) (fun A F => ?_)
  refine Sx.nil ?_
  refine hK1 _ _ ?_
  refine Sx.seq (fun K2 hK2 => ?_)
  refine Sx.seq (fun K3 hK3 => ?_)
  refine Sx.plain ?_
  refine Sx.sv F (Sx.d_faddr (v := .pointer (some ⟨g1, 1, none⟩)) F rfl rfl (fa_31_1 _ 0 _)) (Sx.wanted_none rfl _) rfl (by decide) (fun A F => ?_)
  refine Sx.sv F (Sx.d_load1 (i := 1) (v := .int .u64 ((Wd.lo da).toNat)) one_22 F H rfl rfl rfl rfl) (Sx.wanted_none rfl _) rfl (by decide) (fun A F => ?_)
  refine Sx.sv F (Sx.d_bin (v := .int .u64 (((Wd.lo da) % 2#64).toNat)) F rfl rfl rfl (Sx.i_rem64 (Wd.lo da) 2#64 (by decide))) (Sx.wanted_none rfl _) rfl (by decide) (fun A F => ?_)
  refine Sx.sv F (Sx.d_bin (v := .bool false) F rfl rfl rfl (Sx.i_eq (by rw [R9.par da true hn]; rfl))) (Sx.wanted_none rfl _) rfl (by decide) (fun A F => ?_)
  refine Sx.nil ?_
  refine hK3 _ _ ?_
  refine Sx.condF F rfl ?_
  refine wp_skip ?_
  refine hK2 _ _ ?_
  refine Sx.seq (fun K4 hK4 => ?_)
  refine Sx.plain ?_
  refine Sx.sv F (Sx.d_build (qs := #[]) (v := .agg #[.int .u64 ((Wd.hi 0#128).toNat), .int .u64 ((Wd.lo 0#128).toNat)]) F rfl rfl (by kernel_rfl)) (Sx.wanted_none rfl _) rfl (by decide) (fun A F => ?_)
  refine Sx.sb F (Sx.d_alloc H rfl [.int .u64 ((Wd.hi 0#128).toNat), .int .u64 ((Wd.lo 0#128).toNat)] zero_31) (Sx.wanted_none rfl _) rfl (by decide) (fun g3 A w F H => ?_)
  refine Sx.ss F (Sx.d_store (i := 0) (xs := [.int .u64 ((Wd.hi 0#128).toNat), .int .u64 ((Wd.lo 0#128).toNat)]) (us := [.int .u64 ((Wd.hi 0#128).toNat), .int .u64 ((Wd.lo 0#128).toNat)]) sz_31 F H rfl rfl rfl rfl rfl rfl rfl (Nat.le_of_ble_eq_true rfl) rfl) (Sx.wanted_none rfl _) rfl (fun A w F (H : Sx.Own w0 _ [(true, g3, [.int .u64 ((Wd.hi 0#128).toNat), .int .u64 ((Wd.lo 0#128).toNat)]), (true, g2, [.int .u64 ((Wd.hi 0#128).toNat), .int .u64 ((Wd.lo 0#128).toNat)]), (true, g1, [.int .u64 ((Wd.hi da).toNat), .int .u64 ((Wd.lo da).toNat)])] []) => ?_)
  refine Sx.nil ?_
  refine hK4 _ _ ?_
  refine Sx.seq (fun K5 hK5 => ?_)
  refine Sx.seq (fun K6 hK6 => ?_)
  refine Sx.plain ?_
  refine Sx.sv F (Sx.d_move F (Or.inr rfl) rfl) (Sx.wanted_none rfl _) rfl (by decide) (fun A F => ?_)
  refine Sx.nil ?_
  refine hK6 _ _ ?_
  refine wp_block ?_
  refine Sx.loop (fun q A w => ∃ (i : Nat) (y : BitVec 128), q = 128 - i ∧ i ≤ 128 ∧ R9.ok da y i ∧ Sx.Fr 35 A [(1, .pointer (some ⟨g1, 0, none⟩)), (2, .pointer (some ⟨g2, 0, none⟩)), (4, .pointer (some ⟨g3, 0, none⟩)), (5, .int .i64 i)] ∧ Sx.Own w0 w [(true, g3, [.int .u64 ((Wd.hi y).toNat), .int .u64 ((Wd.lo y).toNat)]), (true, g2, [.int .u64 ((Wd.hi 0#128).toNat), .int .u64 ((Wd.lo 0#128).toNat)]), (true, g1, [.int .u64 ((Wd.hi da).toNat), .int .u64 ((Wd.lo da).toNat)])] []) 128 ⟨0, 0#128, rfl, Nat.zero_le _, R9.start _, F.to ⟨rfl, rfl, rfl, rfl, trivial⟩, H⟩ ?_
  rintro q A w ⟨i, y, rfl, hi, hok, F, H⟩
  by_cases hlt : i < 128
  · by_cases hz : i = 0
    · cases hb : (da * y).getLsbD i
      · skip
        refine Sx.seq (fun K7 hK7 => ?_)
        refine Sx.seq (fun K8 hK8 => ?_)
        refine Sx.plain ?_
        refine Sx.sv F (Sx.d_move F (Or.inl rfl) rfl) (Sx.wanted_none rfl _) rfl (by decide) (fun A F => ?_)
        refine Sx.sv F (Sx.d_bin (v := .bool true) F rfl rfl rfl (Sx.i_lt (decide_eq_true (by omega)))) (Sx.wanted_none rfl _) rfl (by decide) (fun A F => ?_)
        refine Sx.nil ?_
        refine hK8 _ _ ?_
        refine Sx.condT F rfl ?_
        refine wp_skip ?_
        refine hK7 _ _ ?_
        refine Sx.seq (fun K9 hK9 => ?_)
        refine wp_block ?_
        refine Sx.seq (fun K10 hK10 => ?_)
        refine Sx.plain ?_
        refine Sx.sv F (Sx.d_move F (Or.inr rfl) rfl) (Sx.wanted_none rfl _) rfl (by decide) (fun A F => ?_)
        refine Sx.nil ?_
        refine hK10 _ _ ?_
        refine Sx.seq (fun K11 hK11 => ?_)
        refine Sx.seq (fun K12 hK12 => ?_)
        refine Sx.plain ?_
        refine Sx.sv F (Sx.d_move F (Or.inl rfl) rfl) (Sx.wanted_none rfl _) rfl (by decide) (fun A F => ?_)
        refine Sx.sv F (Sx.d_bin (v := .bool true) F rfl rfl rfl (Sx.i_eq (beq_iff_eq.2 (by omega)))) (Sx.wanted_none rfl _) rfl (by decide) (fun A F => ?_)
        refine Sx.nil ?_
        refine hK12 _ _ ?_
        refine Sx.condT F rfl ?_
        refine Sx.plain ?_
        refine Sx.sv F (Sx.d_move F (Or.inr rfl) rfl) (Sx.wanted_none rfl _) rfl (by decide) (fun A F => ?_)
        refine Sx.nil ?_
        refine hK11 _ _ ?_
        refine Sx.seq (fun K13 hK13 => ?_)
        refine Sx.plain ?_
        refine Sx.sv F (Sx.d_load (i := 2) (xs := [.int .u64 ((Wd.hi da).toNat), .int .u64 ((Wd.lo da).toNat)]) rw_31 F H rfl rfl rfl rfl rfl) (Sx.wanted_none rfl _) rfl (by decide) (fun A F => ?_)
        refine Sx.sv F (Sx.d_load (i := 0) (xs := [.int .u64 ((Wd.hi y).toNat), .int .u64 ((Wd.lo y).toNat)]) rw_31 F H rfl rfl rfl rfl rfl) (Sx.wanted_none rfl _) rfl (by decide) (fun A F => ?_)
        refine Sx.sw F (Sx.d_call (vs := [.agg #[.int .u64 ((Wd.hi da).toNat), .int .u64 ((Wd.lo da).toNat)], .agg #[.int .u64 ((Wd.hi y).toNat), .int .u64 ((Wd.lo y).toNat)]]) (v := .agg #[.int .u64 ((Wd.hi (da * y)).toNat), .int .u64 ((Wd.lo (da * y)).toNat)]) if_59 F H rfl rfl (rmul_c da y _)) (Sx.wanted_none rfl _) rfl (by decide) (fun A w F H => ?_)
        refine Sx.sv F (Sx.d_move F (Or.inl rfl) rfl) (Sx.wanted_none rfl _) rfl (by decide) (fun A F => ?_)
        refine Sx.sw F (Sx.d_call (vs := [.agg #[.int .u64 ((Wd.hi (da * y)).toNat), .int .u64 ((Wd.lo (da * y)).toNat)], .int .i64 i]) (v := .int .i64 (((da * y).getLsbD i).toNat)) if_58 F H rfl rfl (rbitN_c (da * y) i (by omega) _)) (Sx.wanted_none rfl _) rfl (by decide) (fun A w F H => ?_)
        refine Sx.sv F (Sx.d_move F (Or.inl rfl) rfl) (Sx.wanted_none rfl _) rfl (by decide) (fun A F => ?_)
        refine Sx.sv F (Sx.d_bin (v := .bool true) F rfl rfl rfl (Sx.i_ne (by rw [hb]; rfl))) (Sx.wanted_none rfl _) rfl (by decide) (fun A F => ?_)
        refine Sx.nil ?_
        refine hK13 _ _ ?_
        refine Sx.condT F rfl ?_
        have F := Sx.Fr.to F (kv' := [(1, .pointer (some ⟨g1, 0, none⟩)), (2, .pointer (some ⟨g2, 0, none⟩)), (4, .pointer (some ⟨g3, 0, none⟩)), (5, .int .i64 i), (13, .int .i64 i), (14, .bool true), (6, .int .i64 1), (17, .int .i64 i), (18, .bool true), (19, .agg #[.int .u64 ((Wd.hi da).toNat), .int .u64 ((Wd.lo da).toNat)]), (20, .agg #[.int .u64 ((Wd.hi y).toNat), .int .u64 ((Wd.lo y).toNat)]), (21, .agg #[.int .u64 ((Wd.hi (da * y)).toNat), .int .u64 ((Wd.lo (da * y)).toNat)]), (22, .int .i64 i), (23, .int .i64 (((da * y).getLsbD i).toNat)), (24, .int .i64 1), (25, .bool true)]) ⟨rfl, rfl, rfl, rfl, rfl, rfl, rfl, rfl, rfl, rfl, rfl, rfl, rfl, rfl, rfl, rfl, trivial⟩
        refine Sx.drawn F (by kernel_rfl) (by kernel_rfl) (by kernel_rfl) [some (.agg #[.int .u64 ((Wd.hi y).toNat), .int .u64 ((Wd.lo y).toNat)]), some (.agg #[.int .u64 ((Wd.hi 1#128).toNat), .int .u64 ((Wd.lo 1#128).toNat)]), some (.int .i64 i), some (.agg #[.int .u64 ((Wd.hi (1#128 <<< i)).toNat), .int .u64 ((Wd.lo (1#128 <<< i)).toNat)]), some (.tuple #[.agg #[.int .u64 ((Wd.hi (y + (1#128 <<< i))).toNat), .int .u64 ((Wd.lo (y + (1#128 <<< i))).toNat)], .bool (Wd.over y (1#128 <<< i))]), some (.tuple #[.agg #[.int .u64 ((Wd.hi (y + (1#128 <<< i))).toNat), .int .u64 ((Wd.lo (y + (1#128 <<< i))).toNat)], .bool (Wd.over y (1#128 <<< i))]), some (.agg #[.int .u64 ((Wd.hi (y + (1#128 <<< i))).toNat), .int .u64 ((Wd.lo (y + (1#128 <<< i))).toNat)]), some (.bool (Wd.over y (1#128 <<< i))), none] (fun L A w => Sx.Own w0 w [(true, g3, (cond (L 8) [.int .u64 ((Wd.hi (y + (1#128 <<< i))).toNat), .int .u64 ((Wd.lo (y + (1#128 <<< i))).toNat)] [.int .u64 ((Wd.hi y).toNat), .int .u64 ((Wd.lo y).toNat)])), (true, g2, [.int .u64 ((Wd.hi 0#128).toNat), .int .u64 ((Wd.lo 0#128).toNat)]), (true, g1, [.int .u64 ((Wd.hi da).toNat), .int .u64 ((Wd.lo da).toNat)])] []) H.drew ?_ ?_
        · refine ⟨?_, ?_, ?_, ?_, ?_, ?_, ?_, ?_, ?_, trivial⟩
          · show Sx.StepAt _ _ _ _ _ _ _ 0
            intro L A w up hun hd F H
            have f8 : L 8 = false := up 8 0 rfl hun
            rw [f8] at H
            have F := Sx.Fr.to F (kv' := [(4, .pointer (some ⟨g3, 0, none⟩))]) ⟨rfl, trivial⟩
            refine Sx.step_on rfl (Sx.d_load (i := 0) (xs := [.int .u64 ((Wd.hi y).toNat), .int .u64 ((Wd.lo y).toNat)]) rw_31 F H rfl rfl rfl rfl rfl) ?_
            rintro xv w' ⟨hx, rfl⟩
            exact ⟨(fun cv hc => hx.trans (Option.some.inj (Option.some.inj hc))), (by show Sx.Own _ _ _ _; rw [show Inv.add L 0 8 = false from f8]; exact H)⟩
          · show Sx.StepAt _ _ _ _ _ _ _ 1
            intro L A w up hun hd F H
            have f8 : L 8 = false := up 8 1 rfl hun
            rw [f8] at H
            have F := Sx.Fr.to F (kv' := []) trivial
            refine Sx.step_on rfl (Sx.d_build (qs := #[(0, .int .u64 0), (1, .int .u64 1)]) (v := .agg #[.int .u64 ((Wd.hi 1#128).toNat), .int .u64 ((Wd.lo 1#128).toNat)]) F rfl rfl (by kernel_rfl)) ?_
            rintro xv w' ⟨hx, rfl⟩
            exact ⟨(fun cv hc => hx.trans (Option.some.inj (Option.some.inj hc))), (by show Sx.Own _ _ _ _; rw [show Inv.add L 1 8 = false from f8]; exact H)⟩
          · show Sx.StepAt _ _ _ _ _ _ _ 2
            intro L A w up hun hd F H
            have f8 : L 8 = false := up 8 2 rfl hun
            rw [f8] at H
            have F := Sx.Fr.to F (kv' := [(5, .int .i64 i)]) ⟨rfl, trivial⟩
            refine Sx.step_on rfl (Sx.d_move F (Or.inl rfl) rfl) ?_
            rintro xv w' ⟨hx, rfl⟩
            exact ⟨(fun cv hc => hx.trans (Option.some.inj (Option.some.inj hc))), (by show Sx.Own _ _ _ _; rw [show Inv.add L 2 8 = false from f8]; exact H)⟩
          · show Sx.StepAt _ _ _ _ _ _ _ 3
            intro L A w up hun hd F H
            have f8 : L 8 = false := up 8 3 rfl hun
            rw [f8] at H
            have F := Sx.Fr.to F (kv' := [(28, .agg #[.int .u64 ((Wd.hi 1#128).toNat), .int .u64 ((Wd.lo 1#128).toNat)]), (29, .int .i64 i)]) ⟨rfl, rfl, trivial⟩
            refine Sx.step_on rfl (Sx.d_call (vs := [.agg #[.int .u64 ((Wd.hi 1#128).toNat), .int .u64 ((Wd.lo 1#128).toNat)], .int .i64 i]) (v := .agg #[.int .u64 ((Wd.hi (1#128 <<< i)).toNat), .int .u64 ((Wd.lo (1#128 <<< i)).toNat)]) if_61 F H rfl rfl (rleft_c 1#128 i i (by omega) _)) ?_
            rintro xv w' ⟨hx, H⟩
            exact ⟨(fun cv hc => hx.trans (Option.some.inj (Option.some.inj hc))), (by show Sx.Own _ _ _ _; rw [show Inv.add L 3 8 = false from f8]; exact H)⟩
          · show Sx.StepAt _ _ _ _ _ _ _ 4
            intro L A w up hun hd F H
            have f8 : L 8 = false := up 8 4 rfl hun
            rw [f8] at H
            have F := Sx.Fr.to F (kv' := [(27, .agg #[.int .u64 ((Wd.hi y).toNat), .int .u64 ((Wd.lo y).toNat)]), (30, .agg #[.int .u64 ((Wd.hi (1#128 <<< i)).toNat), .int .u64 ((Wd.lo (1#128 <<< i)).toNat)])]) ⟨rfl, rfl, trivial⟩
            refine Sx.step_on rfl (Sx.d_call (vs := [.agg #[.int .u64 ((Wd.hi y).toNat), .int .u64 ((Wd.lo y).toNat)], .agg #[.int .u64 ((Wd.hi (1#128 <<< i)).toNat), .int .u64 ((Wd.lo (1#128 <<< i)).toNat)]]) (v := .tuple #[.agg #[.int .u64 ((Wd.hi (y + (1#128 <<< i))).toNat), .int .u64 ((Wd.lo (y + (1#128 <<< i))).toNat)], .bool (Wd.over y (1#128 <<< i))]) if_60 F H rfl rfl (radd_c y (1#128 <<< i) _)) ?_
            rintro xv w' ⟨hx, H⟩
            exact ⟨(fun cv hc => hx.trans (Option.some.inj (Option.some.inj hc))), (by show Sx.Own _ _ _ _; rw [show Inv.add L 4 8 = false from f8]; exact H)⟩
          · show Sx.StepAt _ _ _ _ _ _ _ 5
            intro L A w up hun hd F H
            have f8 : L 8 = false := up 8 5 rfl hun
            rw [f8] at H
            have F := Sx.Fr.to F (kv' := [(31, .tuple #[.agg #[.int .u64 ((Wd.hi (y + (1#128 <<< i))).toNat), .int .u64 ((Wd.lo (y + (1#128 <<< i))).toNat)], .bool (Wd.over y (1#128 <<< i))])]) ⟨rfl, trivial⟩
            refine Sx.step_on rfl (Sx.d_move F (Or.inl rfl) rfl) ?_
            rintro xv w' ⟨hx, rfl⟩
            exact ⟨(fun cv hc => hx.trans (Option.some.inj (Option.some.inj hc))), (by show Sx.Own _ _ _ _; rw [show Inv.add L 5 8 = false from f8]; exact H)⟩
          · show Sx.StepAt _ _ _ _ _ _ _ 6
            intro L A w up hun hd F H
            have f8 : L 8 = false := up 8 6 rfl hun
            rw [f8] at H
            have F := Sx.Fr.to F (kv' := [(26, .tuple #[.agg #[.int .u64 ((Wd.hi (y + (1#128 <<< i))).toNat), .int .u64 ((Wd.lo (y + (1#128 <<< i))).toNat)], .bool (Wd.over y (1#128 <<< i))])]) ⟨rfl, trivial⟩
            refine Sx.step_on rfl (Sx.d_extract (v := .agg #[.int .u64 ((Wd.hi (y + (1#128 <<< i))).toNat), .int .u64 ((Wd.lo (y + (1#128 <<< i))).toNat)]) F rfl rfl rfl) ?_
            rintro xv w' ⟨hx, rfl⟩
            exact ⟨(fun cv hc => hx.trans (Option.some.inj (Option.some.inj hc))), (by show Sx.Own _ _ _ _; rw [show Inv.add L 6 8 = false from f8]; exact H)⟩
          · show Sx.StepAt _ _ _ _ _ _ _ 7
            intro L A w up hun hd F H
            have F := Sx.Fr.to F (kv' := [(26, .tuple #[.agg #[.int .u64 ((Wd.hi (y + (1#128 <<< i))).toNat), .int .u64 ((Wd.lo (y + (1#128 <<< i))).toNat)], .bool (Wd.over y (1#128 <<< i))])]) ⟨rfl, trivial⟩
            refine Sx.step_on rfl (Sx.d_extract (v := .bool (Wd.over y (1#128 <<< i))) F rfl rfl rfl) ?_
            rintro xv w' ⟨hx, rfl⟩
            exact ⟨(fun cv hc => hx.trans (Option.some.inj (Option.some.inj hc))), H⟩
          · show Sx.StepAt _ _ _ _ _ _ _ 8
            intro L A w up hun hd F H
            have f8 : L 8 = false := hun
            rw [f8] at H
            have F := Sx.Fr.to F (kv' := [(4, .pointer (some ⟨g3, 0, none⟩)), (32, .agg #[.int .u64 ((Wd.hi (y + (1#128 <<< i))).toNat), .int .u64 ((Wd.lo (y + (1#128 <<< i))).toNat)])]) ⟨rfl, rfl, trivial⟩
            refine Sx.step_on rfl (Sx.d_store (i := 0) (xs := [.int .u64 ((Wd.hi (y + (1#128 <<< i))).toNat), .int .u64 ((Wd.lo (y + (1#128 <<< i))).toNat)]) (us := [.int .u64 ((Wd.hi (y + (1#128 <<< i))).toNat), .int .u64 ((Wd.lo (y + (1#128 <<< i))).toNat)]) sz_31 F H rfl rfl rfl rfl rfl rfl rfl (Nat.le_of_ble_eq_true rfl) rfl) ?_
            intro xv w' H
            exact ⟨(fun cv hc => by have h := Option.some.inj hc; cases h), H⟩
        · intro L A w hL F H
          have t8 : L 8 = true := hL 8 rfl
          rw [t8] at H
          have F := Sx.Fr.to F (kv' := [(1, .pointer (some ⟨g1, 0, none⟩)), (2, .pointer (some ⟨g2, 0, none⟩)), (4, .pointer (some ⟨g3, 0, none⟩)), (5, .int .i64 i), (13, .int .i64 i), (14, .bool true), (6, .int .i64 1), (17, .int .i64 i), (18, .bool true), (19, .agg #[.int .u64 ((Wd.hi da).toNat), .int .u64 ((Wd.lo da).toNat)]), (20, .agg #[.int .u64 ((Wd.hi y).toNat), .int .u64 ((Wd.lo y).toNat)]), (21, .agg #[.int .u64 ((Wd.hi (da * y)).toNat), .int .u64 ((Wd.lo (da * y)).toNat)]), (22, .int .i64 i), (23, .int .i64 (((da * y).getLsbD i).toNat)), (24, .int .i64 1), (25, .bool true)]) ⟨rfl, rfl, rfl, rfl, rfl, rfl, rfl, rfl, rfl, rfl, rfl, rfl, rfl, rfl, rfl, rfl, trivial⟩
          refine hK9 _ _ ?_
          refine Sx.plain ?_
          refine Sx.sv F (Sx.d_move F (Or.inl rfl) rfl) (Sx.wanted_none rfl _) rfl (by decide) (fun A F => ?_)
          refine Sx.sv F (Sx.d_bin (v := .int .i64 (i + 1 : Nat)) F rfl rfl rfl (Sx.i_addN rfl (Sx.in_i64 _ (by omega)))) (Sx.wanted_none rfl _) rfl (by decide) (fun A F => ?_)
          refine Sx.sv F (Sx.d_move F (Or.inr rfl) rfl) (Sx.wanted_none rfl _) rfl (by decide) (fun A F => ?_)
          refine Sx.nil ?_
          try dsimp only [Exit.then]
          exact ⟨128 - (i + 1), by omega, i + 1, y + 1#128 <<< i, rfl, by omega, R9.flip hn hlt hok (hb.trans (by rw [decide_eq_true hz]; rfl)), F.to ⟨rfl, rfl, rfl, rfl, trivial⟩, H⟩
      · skip
        refine Sx.seq (fun K14 hK14 => ?_)
        refine Sx.seq (fun K15 hK15 => ?_)
        refine Sx.plain ?_
        refine Sx.sv F (Sx.d_move F (Or.inl rfl) rfl) (Sx.wanted_none rfl _) rfl (by decide) (fun A F => ?_)
        refine Sx.sv F (Sx.d_bin (v := .bool true) F rfl rfl rfl (Sx.i_lt (decide_eq_true (by omega)))) (Sx.wanted_none rfl _) rfl (by decide) (fun A F => ?_)
        refine Sx.nil ?_
        refine hK15 _ _ ?_
        refine Sx.condT F rfl ?_
        refine wp_skip ?_
        refine hK14 _ _ ?_
        refine Sx.seq (fun K16 hK16 => ?_)
        refine wp_block ?_
        refine Sx.seq (fun K17 hK17 => ?_)
        refine Sx.plain ?_
        refine Sx.sv F (Sx.d_move F (Or.inr rfl) rfl) (Sx.wanted_none rfl _) rfl (by decide) (fun A F => ?_)
        refine Sx.nil ?_
        refine hK17 _ _ ?_
        refine Sx.seq (fun K18 hK18 => ?_)
        refine Sx.seq (fun K19 hK19 => ?_)
        refine Sx.plain ?_
        refine Sx.sv F (Sx.d_move F (Or.inl rfl) rfl) (Sx.wanted_none rfl _) rfl (by decide) (fun A F => ?_)
        refine Sx.sv F (Sx.d_bin (v := .bool true) F rfl rfl rfl (Sx.i_eq (beq_iff_eq.2 (by omega)))) (Sx.wanted_none rfl _) rfl (by decide) (fun A F => ?_)
        refine Sx.nil ?_
        refine hK19 _ _ ?_
        refine Sx.condT F rfl ?_
        refine Sx.plain ?_
        refine Sx.sv F (Sx.d_move F (Or.inr rfl) rfl) (Sx.wanted_none rfl _) rfl (by decide) (fun A F => ?_)
        refine Sx.nil ?_
        refine hK18 _ _ ?_
        refine Sx.seq (fun K20 hK20 => ?_)
        refine Sx.plain ?_
        refine Sx.sv F (Sx.d_load (i := 2) (xs := [.int .u64 ((Wd.hi da).toNat), .int .u64 ((Wd.lo da).toNat)]) rw_31 F H rfl rfl rfl rfl rfl) (Sx.wanted_none rfl _) rfl (by decide) (fun A F => ?_)
        refine Sx.sv F (Sx.d_load (i := 0) (xs := [.int .u64 ((Wd.hi y).toNat), .int .u64 ((Wd.lo y).toNat)]) rw_31 F H rfl rfl rfl rfl rfl) (Sx.wanted_none rfl _) rfl (by decide) (fun A F => ?_)
        refine Sx.sw F (Sx.d_call (vs := [.agg #[.int .u64 ((Wd.hi da).toNat), .int .u64 ((Wd.lo da).toNat)], .agg #[.int .u64 ((Wd.hi y).toNat), .int .u64 ((Wd.lo y).toNat)]]) (v := .agg #[.int .u64 ((Wd.hi (da * y)).toNat), .int .u64 ((Wd.lo (da * y)).toNat)]) if_59 F H rfl rfl (rmul_c da y _)) (Sx.wanted_none rfl _) rfl (by decide) (fun A w F H => ?_)
        refine Sx.sv F (Sx.d_move F (Or.inl rfl) rfl) (Sx.wanted_none rfl _) rfl (by decide) (fun A F => ?_)
        refine Sx.sw F (Sx.d_call (vs := [.agg #[.int .u64 ((Wd.hi (da * y)).toNat), .int .u64 ((Wd.lo (da * y)).toNat)], .int .i64 i]) (v := .int .i64 (((da * y).getLsbD i).toNat)) if_58 F H rfl rfl (rbitN_c (da * y) i (by omega) _)) (Sx.wanted_none rfl _) rfl (by decide) (fun A w F H => ?_)
        refine Sx.sv F (Sx.d_move F (Or.inl rfl) rfl) (Sx.wanted_none rfl _) rfl (by decide) (fun A F => ?_)
        refine Sx.sv F (Sx.d_bin (v := .bool false) F rfl rfl rfl (Sx.i_ne (by rw [hb]; rfl))) (Sx.wanted_none rfl _) rfl (by decide) (fun A F => ?_)
        refine Sx.nil ?_
        refine hK20 _ _ ?_
        refine Sx.condF F rfl ?_
        refine wp_skip ?_
        refine hK16 _ _ ?_
        refine Sx.plain ?_
        refine Sx.sv F (Sx.d_move F (Or.inl rfl) rfl) (Sx.wanted_none rfl _) rfl (by decide) (fun A F => ?_)
        refine Sx.sv F (Sx.d_bin (v := .int .i64 (i + 1 : Nat)) F rfl rfl rfl (Sx.i_addN rfl (Sx.in_i64 _ (by omega)))) (Sx.wanted_none rfl _) rfl (by decide) (fun A F => ?_)
        refine Sx.sv F (Sx.d_move F (Or.inr rfl) rfl) (Sx.wanted_none rfl _) rfl (by decide) (fun A F => ?_)
        refine Sx.nil ?_
        try dsimp only [Exit.then]
        exact ⟨128 - (i + 1), by omega, i + 1, y, rfl, by omega, R9.keep hok (hb.trans (by rw [decide_eq_true hz])), F.to ⟨rfl, rfl, rfl, rfl, trivial⟩, H⟩
    · cases hb : (da * y).getLsbD i
      · skip
        refine Sx.seq (fun K21 hK21 => ?_)
        refine Sx.seq (fun K22 hK22 => ?_)
        refine Sx.plain ?_
        refine Sx.sv F (Sx.d_move F (Or.inl rfl) rfl) (Sx.wanted_none rfl _) rfl (by decide) (fun A F => ?_)
        refine Sx.sv F (Sx.d_bin (v := .bool true) F rfl rfl rfl (Sx.i_lt (decide_eq_true (by omega)))) (Sx.wanted_none rfl _) rfl (by decide) (fun A F => ?_)
        refine Sx.nil ?_
        refine hK22 _ _ ?_
        refine Sx.condT F rfl ?_
        refine wp_skip ?_
        refine hK21 _ _ ?_
        refine Sx.seq (fun K23 hK23 => ?_)
        refine wp_block ?_
        refine Sx.seq (fun K24 hK24 => ?_)
        refine Sx.plain ?_
        refine Sx.sv F (Sx.d_move F (Or.inr rfl) rfl) (Sx.wanted_none rfl _) rfl (by decide) (fun A F => ?_)
        refine Sx.nil ?_
        refine hK24 _ _ ?_
        refine Sx.seq (fun K25 hK25 => ?_)
        refine Sx.seq (fun K26 hK26 => ?_)
        refine Sx.plain ?_
        refine Sx.sv F (Sx.d_move F (Or.inl rfl) rfl) (Sx.wanted_none rfl _) rfl (by decide) (fun A F => ?_)
        refine Sx.sv F (Sx.d_bin (v := .bool false) F rfl rfl rfl (Sx.i_eq (beq_false_of_ne (by omega)))) (Sx.wanted_none rfl _) rfl (by decide) (fun A F => ?_)
        refine Sx.nil ?_
        refine hK26 _ _ ?_
        refine Sx.condF F rfl ?_
        refine wp_skip ?_
        refine hK25 _ _ ?_
        refine Sx.seq (fun K27 hK27 => ?_)
        refine Sx.plain ?_
        refine Sx.sv F (Sx.d_load (i := 2) (xs := [.int .u64 ((Wd.hi da).toNat), .int .u64 ((Wd.lo da).toNat)]) rw_31 F H rfl rfl rfl rfl rfl) (Sx.wanted_none rfl _) rfl (by decide) (fun A F => ?_)
        refine Sx.sv F (Sx.d_load (i := 0) (xs := [.int .u64 ((Wd.hi y).toNat), .int .u64 ((Wd.lo y).toNat)]) rw_31 F H rfl rfl rfl rfl rfl) (Sx.wanted_none rfl _) rfl (by decide) (fun A F => ?_)
        refine Sx.sw F (Sx.d_call (vs := [.agg #[.int .u64 ((Wd.hi da).toNat), .int .u64 ((Wd.lo da).toNat)], .agg #[.int .u64 ((Wd.hi y).toNat), .int .u64 ((Wd.lo y).toNat)]]) (v := .agg #[.int .u64 ((Wd.hi (da * y)).toNat), .int .u64 ((Wd.lo (da * y)).toNat)]) if_59 F H rfl rfl (rmul_c da y _)) (Sx.wanted_none rfl _) rfl (by decide) (fun A w F H => ?_)
        refine Sx.sv F (Sx.d_move F (Or.inl rfl) rfl) (Sx.wanted_none rfl _) rfl (by decide) (fun A F => ?_)
        refine Sx.sw F (Sx.d_call (vs := [.agg #[.int .u64 ((Wd.hi (da * y)).toNat), .int .u64 ((Wd.lo (da * y)).toNat)], .int .i64 i]) (v := .int .i64 (((da * y).getLsbD i).toNat)) if_58 F H rfl rfl (rbitN_c (da * y) i (by omega) _)) (Sx.wanted_none rfl _) rfl (by decide) (fun A w F H => ?_)
        refine Sx.sv F (Sx.d_move F (Or.inl rfl) rfl) (Sx.wanted_none rfl _) rfl (by decide) (fun A F => ?_)
        refine Sx.sv F (Sx.d_bin (v := .bool false) F rfl rfl rfl (Sx.i_ne (by rw [hb]; rfl))) (Sx.wanted_none rfl _) rfl (by decide) (fun A F => ?_)
        refine Sx.nil ?_
        refine hK27 _ _ ?_
        refine Sx.condF F rfl ?_
        refine wp_skip ?_
        refine hK23 _ _ ?_
        refine Sx.plain ?_
        refine Sx.sv F (Sx.d_move F (Or.inl rfl) rfl) (Sx.wanted_none rfl _) rfl (by decide) (fun A F => ?_)
        refine Sx.sv F (Sx.d_bin (v := .int .i64 (i + 1 : Nat)) F rfl rfl rfl (Sx.i_addN rfl (Sx.in_i64 _ (by omega)))) (Sx.wanted_none rfl _) rfl (by decide) (fun A F => ?_)
        refine Sx.sv F (Sx.d_move F (Or.inr rfl) rfl) (Sx.wanted_none rfl _) rfl (by decide) (fun A F => ?_)
        refine Sx.nil ?_
        try dsimp only [Exit.then]
        exact ⟨128 - (i + 1), by omega, i + 1, y, rfl, by omega, R9.keep hok (hb.trans (by rw [decide_eq_false hz])), F.to ⟨rfl, rfl, rfl, rfl, trivial⟩, H⟩
      · skip
        refine Sx.seq (fun K28 hK28 => ?_)
        refine Sx.seq (fun K29 hK29 => ?_)
        refine Sx.plain ?_
        refine Sx.sv F (Sx.d_move F (Or.inl rfl) rfl) (Sx.wanted_none rfl _) rfl (by decide) (fun A F => ?_)
        refine Sx.sv F (Sx.d_bin (v := .bool true) F rfl rfl rfl (Sx.i_lt (decide_eq_true (by omega)))) (Sx.wanted_none rfl _) rfl (by decide) (fun A F => ?_)
        refine Sx.nil ?_
        refine hK29 _ _ ?_
        refine Sx.condT F rfl ?_
        refine wp_skip ?_
        refine hK28 _ _ ?_
        refine Sx.seq (fun K30 hK30 => ?_)
        refine wp_block ?_
        refine Sx.seq (fun K31 hK31 => ?_)
        refine Sx.plain ?_
        refine Sx.sv F (Sx.d_move F (Or.inr rfl) rfl) (Sx.wanted_none rfl _) rfl (by decide) (fun A F => ?_)
        refine Sx.nil ?_
        refine hK31 _ _ ?_
        refine Sx.seq (fun K32 hK32 => ?_)
        refine Sx.seq (fun K33 hK33 => ?_)
        refine Sx.plain ?_
        refine Sx.sv F (Sx.d_move F (Or.inl rfl) rfl) (Sx.wanted_none rfl _) rfl (by decide) (fun A F => ?_)
        refine Sx.sv F (Sx.d_bin (v := .bool false) F rfl rfl rfl (Sx.i_eq (beq_false_of_ne (by omega)))) (Sx.wanted_none rfl _) rfl (by decide) (fun A F => ?_)
        refine Sx.nil ?_
        refine hK33 _ _ ?_
        refine Sx.condF F rfl ?_
        refine wp_skip ?_
        refine hK32 _ _ ?_
        refine Sx.seq (fun K34 hK34 => ?_)
        refine Sx.plain ?_
        refine Sx.sv F (Sx.d_load (i := 2) (xs := [.int .u64 ((Wd.hi da).toNat), .int .u64 ((Wd.lo da).toNat)]) rw_31 F H rfl rfl rfl rfl rfl) (Sx.wanted_none rfl _) rfl (by decide) (fun A F => ?_)
        refine Sx.sv F (Sx.d_load (i := 0) (xs := [.int .u64 ((Wd.hi y).toNat), .int .u64 ((Wd.lo y).toNat)]) rw_31 F H rfl rfl rfl rfl rfl) (Sx.wanted_none rfl _) rfl (by decide) (fun A F => ?_)
        refine Sx.sw F (Sx.d_call (vs := [.agg #[.int .u64 ((Wd.hi da).toNat), .int .u64 ((Wd.lo da).toNat)], .agg #[.int .u64 ((Wd.hi y).toNat), .int .u64 ((Wd.lo y).toNat)]]) (v := .agg #[.int .u64 ((Wd.hi (da * y)).toNat), .int .u64 ((Wd.lo (da * y)).toNat)]) if_59 F H rfl rfl (rmul_c da y _)) (Sx.wanted_none rfl _) rfl (by decide) (fun A w F H => ?_)
        refine Sx.sv F (Sx.d_move F (Or.inl rfl) rfl) (Sx.wanted_none rfl _) rfl (by decide) (fun A F => ?_)
        refine Sx.sw F (Sx.d_call (vs := [.agg #[.int .u64 ((Wd.hi (da * y)).toNat), .int .u64 ((Wd.lo (da * y)).toNat)], .int .i64 i]) (v := .int .i64 (((da * y).getLsbD i).toNat)) if_58 F H rfl rfl (rbitN_c (da * y) i (by omega) _)) (Sx.wanted_none rfl _) rfl (by decide) (fun A w F H => ?_)
        refine Sx.sv F (Sx.d_move F (Or.inl rfl) rfl) (Sx.wanted_none rfl _) rfl (by decide) (fun A F => ?_)
        refine Sx.sv F (Sx.d_bin (v := .bool true) F rfl rfl rfl (Sx.i_ne (by rw [hb]; rfl))) (Sx.wanted_none rfl _) rfl (by decide) (fun A F => ?_)
        refine Sx.nil ?_
        refine hK34 _ _ ?_
        refine Sx.condT F rfl ?_
        have F := Sx.Fr.to F (kv' := [(1, .pointer (some ⟨g1, 0, none⟩)), (2, .pointer (some ⟨g2, 0, none⟩)), (4, .pointer (some ⟨g3, 0, none⟩)), (5, .int .i64 i), (13, .int .i64 i), (14, .bool true), (6, .int .i64 0), (17, .int .i64 i), (18, .bool false), (19, .agg #[.int .u64 ((Wd.hi da).toNat), .int .u64 ((Wd.lo da).toNat)]), (20, .agg #[.int .u64 ((Wd.hi y).toNat), .int .u64 ((Wd.lo y).toNat)]), (21, .agg #[.int .u64 ((Wd.hi (da * y)).toNat), .int .u64 ((Wd.lo (da * y)).toNat)]), (22, .int .i64 i), (23, .int .i64 (((da * y).getLsbD i).toNat)), (24, .int .i64 0), (25, .bool true)]) ⟨rfl, rfl, rfl, rfl, rfl, rfl, rfl, rfl, rfl, rfl, rfl, rfl, rfl, rfl, rfl, rfl, trivial⟩
        refine Sx.drawn F (by kernel_rfl) (by kernel_rfl) (by kernel_rfl) [some (.agg #[.int .u64 ((Wd.hi y).toNat), .int .u64 ((Wd.lo y).toNat)]), some (.agg #[.int .u64 ((Wd.hi 1#128).toNat), .int .u64 ((Wd.lo 1#128).toNat)]), some (.int .i64 i), some (.agg #[.int .u64 ((Wd.hi (1#128 <<< i)).toNat), .int .u64 ((Wd.lo (1#128 <<< i)).toNat)]), some (.tuple #[.agg #[.int .u64 ((Wd.hi (y + (1#128 <<< i))).toNat), .int .u64 ((Wd.lo (y + (1#128 <<< i))).toNat)], .bool (Wd.over y (1#128 <<< i))]), some (.tuple #[.agg #[.int .u64 ((Wd.hi (y + (1#128 <<< i))).toNat), .int .u64 ((Wd.lo (y + (1#128 <<< i))).toNat)], .bool (Wd.over y (1#128 <<< i))]), some (.agg #[.int .u64 ((Wd.hi (y + (1#128 <<< i))).toNat), .int .u64 ((Wd.lo (y + (1#128 <<< i))).toNat)]), some (.bool (Wd.over y (1#128 <<< i))), none] (fun L A w => Sx.Own w0 w [(true, g3, (cond (L 8) [.int .u64 ((Wd.hi (y + (1#128 <<< i))).toNat), .int .u64 ((Wd.lo (y + (1#128 <<< i))).toNat)] [.int .u64 ((Wd.hi y).toNat), .int .u64 ((Wd.lo y).toNat)])), (true, g2, [.int .u64 ((Wd.hi 0#128).toNat), .int .u64 ((Wd.lo 0#128).toNat)]), (true, g1, [.int .u64 ((Wd.hi da).toNat), .int .u64 ((Wd.lo da).toNat)])] []) H.drew ?_ ?_
        · refine ⟨?_, ?_, ?_, ?_, ?_, ?_, ?_, ?_, ?_, trivial⟩
          · show Sx.StepAt _ _ _ _ _ _ _ 0
            intro L A w up hun hd F H
            have f8 : L 8 = false := up 8 0 rfl hun
            rw [f8] at H
            have F := Sx.Fr.to F (kv' := [(4, .pointer (some ⟨g3, 0, none⟩))]) ⟨rfl, trivial⟩
            refine Sx.step_on rfl (Sx.d_load (i := 0) (xs := [.int .u64 ((Wd.hi y).toNat), .int .u64 ((Wd.lo y).toNat)]) rw_31 F H rfl rfl rfl rfl rfl) ?_
            rintro xv w' ⟨hx, rfl⟩
            exact ⟨(fun cv hc => hx.trans (Option.some.inj (Option.some.inj hc))), (by show Sx.Own _ _ _ _; rw [show Inv.add L 0 8 = false from f8]; exact H)⟩
          · show Sx.StepAt _ _ _ _ _ _ _ 1
            intro L A w up hun hd F H
            have f8 : L 8 = false := up 8 1 rfl hun
            rw [f8] at H
            have F := Sx.Fr.to F (kv' := []) trivial
            refine Sx.step_on rfl (Sx.d_build (qs := #[(0, .int .u64 0), (1, .int .u64 1)]) (v := .agg #[.int .u64 ((Wd.hi 1#128).toNat), .int .u64 ((Wd.lo 1#128).toNat)]) F rfl rfl (by kernel_rfl)) ?_
            rintro xv w' ⟨hx, rfl⟩
            exact ⟨(fun cv hc => hx.trans (Option.some.inj (Option.some.inj hc))), (by show Sx.Own _ _ _ _; rw [show Inv.add L 1 8 = false from f8]; exact H)⟩
          · show Sx.StepAt _ _ _ _ _ _ _ 2
            intro L A w up hun hd F H
            have f8 : L 8 = false := up 8 2 rfl hun
            rw [f8] at H
            have F := Sx.Fr.to F (kv' := [(5, .int .i64 i)]) ⟨rfl, trivial⟩
            refine Sx.step_on rfl (Sx.d_move F (Or.inl rfl) rfl) ?_
            rintro xv w' ⟨hx, rfl⟩
            exact ⟨(fun cv hc => hx.trans (Option.some.inj (Option.some.inj hc))), (by show Sx.Own _ _ _ _; rw [show Inv.add L 2 8 = false from f8]; exact H)⟩
          · show Sx.StepAt _ _ _ _ _ _ _ 3
            intro L A w up hun hd F H
            have f8 : L 8 = false := up 8 3 rfl hun
            rw [f8] at H
            have F := Sx.Fr.to F (kv' := [(28, .agg #[.int .u64 ((Wd.hi 1#128).toNat), .int .u64 ((Wd.lo 1#128).toNat)]), (29, .int .i64 i)]) ⟨rfl, rfl, trivial⟩
            refine Sx.step_on rfl (Sx.d_call (vs := [.agg #[.int .u64 ((Wd.hi 1#128).toNat), .int .u64 ((Wd.lo 1#128).toNat)], .int .i64 i]) (v := .agg #[.int .u64 ((Wd.hi (1#128 <<< i)).toNat), .int .u64 ((Wd.lo (1#128 <<< i)).toNat)]) if_61 F H rfl rfl (rleft_c 1#128 i i (by omega) _)) ?_
            rintro xv w' ⟨hx, H⟩
            exact ⟨(fun cv hc => hx.trans (Option.some.inj (Option.some.inj hc))), (by show Sx.Own _ _ _ _; rw [show Inv.add L 3 8 = false from f8]; exact H)⟩
          · show Sx.StepAt _ _ _ _ _ _ _ 4
            intro L A w up hun hd F H
            have f8 : L 8 = false := up 8 4 rfl hun
            rw [f8] at H
            have F := Sx.Fr.to F (kv' := [(27, .agg #[.int .u64 ((Wd.hi y).toNat), .int .u64 ((Wd.lo y).toNat)]), (30, .agg #[.int .u64 ((Wd.hi (1#128 <<< i)).toNat), .int .u64 ((Wd.lo (1#128 <<< i)).toNat)])]) ⟨rfl, rfl, trivial⟩
            refine Sx.step_on rfl (Sx.d_call (vs := [.agg #[.int .u64 ((Wd.hi y).toNat), .int .u64 ((Wd.lo y).toNat)], .agg #[.int .u64 ((Wd.hi (1#128 <<< i)).toNat), .int .u64 ((Wd.lo (1#128 <<< i)).toNat)]]) (v := .tuple #[.agg #[.int .u64 ((Wd.hi (y + (1#128 <<< i))).toNat), .int .u64 ((Wd.lo (y + (1#128 <<< i))).toNat)], .bool (Wd.over y (1#128 <<< i))]) if_60 F H rfl rfl (radd_c y (1#128 <<< i) _)) ?_
            rintro xv w' ⟨hx, H⟩
            exact ⟨(fun cv hc => hx.trans (Option.some.inj (Option.some.inj hc))), (by show Sx.Own _ _ _ _; rw [show Inv.add L 4 8 = false from f8]; exact H)⟩
          · show Sx.StepAt _ _ _ _ _ _ _ 5
            intro L A w up hun hd F H
            have f8 : L 8 = false := up 8 5 rfl hun
            rw [f8] at H
            have F := Sx.Fr.to F (kv' := [(31, .tuple #[.agg #[.int .u64 ((Wd.hi (y + (1#128 <<< i))).toNat), .int .u64 ((Wd.lo (y + (1#128 <<< i))).toNat)], .bool (Wd.over y (1#128 <<< i))])]) ⟨rfl, trivial⟩
            refine Sx.step_on rfl (Sx.d_move F (Or.inl rfl) rfl) ?_
            rintro xv w' ⟨hx, rfl⟩
            exact ⟨(fun cv hc => hx.trans (Option.some.inj (Option.some.inj hc))), (by show Sx.Own _ _ _ _; rw [show Inv.add L 5 8 = false from f8]; exact H)⟩
          · show Sx.StepAt _ _ _ _ _ _ _ 6
            intro L A w up hun hd F H
            have f8 : L 8 = false := up 8 6 rfl hun
            rw [f8] at H
            have F := Sx.Fr.to F (kv' := [(26, .tuple #[.agg #[.int .u64 ((Wd.hi (y + (1#128 <<< i))).toNat), .int .u64 ((Wd.lo (y + (1#128 <<< i))).toNat)], .bool (Wd.over y (1#128 <<< i))])]) ⟨rfl, trivial⟩
            refine Sx.step_on rfl (Sx.d_extract (v := .agg #[.int .u64 ((Wd.hi (y + (1#128 <<< i))).toNat), .int .u64 ((Wd.lo (y + (1#128 <<< i))).toNat)]) F rfl rfl rfl) ?_
            rintro xv w' ⟨hx, rfl⟩
            exact ⟨(fun cv hc => hx.trans (Option.some.inj (Option.some.inj hc))), (by show Sx.Own _ _ _ _; rw [show Inv.add L 6 8 = false from f8]; exact H)⟩
          · show Sx.StepAt _ _ _ _ _ _ _ 7
            intro L A w up hun hd F H
            have F := Sx.Fr.to F (kv' := [(26, .tuple #[.agg #[.int .u64 ((Wd.hi (y + (1#128 <<< i))).toNat), .int .u64 ((Wd.lo (y + (1#128 <<< i))).toNat)], .bool (Wd.over y (1#128 <<< i))])]) ⟨rfl, trivial⟩
            refine Sx.step_on rfl (Sx.d_extract (v := .bool (Wd.over y (1#128 <<< i))) F rfl rfl rfl) ?_
            rintro xv w' ⟨hx, rfl⟩
            exact ⟨(fun cv hc => hx.trans (Option.some.inj (Option.some.inj hc))), H⟩
          · show Sx.StepAt _ _ _ _ _ _ _ 8
            intro L A w up hun hd F H
            have f8 : L 8 = false := hun
            rw [f8] at H
            have F := Sx.Fr.to F (kv' := [(4, .pointer (some ⟨g3, 0, none⟩)), (32, .agg #[.int .u64 ((Wd.hi (y + (1#128 <<< i))).toNat), .int .u64 ((Wd.lo (y + (1#128 <<< i))).toNat)])]) ⟨rfl, rfl, trivial⟩
            refine Sx.step_on rfl (Sx.d_store (i := 0) (xs := [.int .u64 ((Wd.hi (y + (1#128 <<< i))).toNat), .int .u64 ((Wd.lo (y + (1#128 <<< i))).toNat)]) (us := [.int .u64 ((Wd.hi (y + (1#128 <<< i))).toNat), .int .u64 ((Wd.lo (y + (1#128 <<< i))).toNat)]) sz_31 F H rfl rfl rfl rfl rfl rfl rfl (Nat.le_of_ble_eq_true rfl) rfl) ?_
            intro xv w' H
            exact ⟨(fun cv hc => by have h := Option.some.inj hc; cases h), H⟩
        · intro L A w hL F H
          have t8 : L 8 = true := hL 8 rfl
          rw [t8] at H
          have F := Sx.Fr.to F (kv' := [(1, .pointer (some ⟨g1, 0, none⟩)), (2, .pointer (some ⟨g2, 0, none⟩)), (4, .pointer (some ⟨g3, 0, none⟩)), (5, .int .i64 i), (13, .int .i64 i), (14, .bool true), (6, .int .i64 0), (17, .int .i64 i), (18, .bool false), (19, .agg #[.int .u64 ((Wd.hi da).toNat), .int .u64 ((Wd.lo da).toNat)]), (20, .agg #[.int .u64 ((Wd.hi y).toNat), .int .u64 ((Wd.lo y).toNat)]), (21, .agg #[.int .u64 ((Wd.hi (da * y)).toNat), .int .u64 ((Wd.lo (da * y)).toNat)]), (22, .int .i64 i), (23, .int .i64 (((da * y).getLsbD i).toNat)), (24, .int .i64 0), (25, .bool true)]) ⟨rfl, rfl, rfl, rfl, rfl, rfl, rfl, rfl, rfl, rfl, rfl, rfl, rfl, rfl, rfl, rfl, trivial⟩
          refine hK30 _ _ ?_
          refine Sx.plain ?_
          refine Sx.sv F (Sx.d_move F (Or.inl rfl) rfl) (Sx.wanted_none rfl _) rfl (by decide) (fun A F => ?_)
          refine Sx.sv F (Sx.d_bin (v := .int .i64 (i + 1 : Nat)) F rfl rfl rfl (Sx.i_addN rfl (Sx.in_i64 _ (by omega)))) (Sx.wanted_none rfl _) rfl (by decide) (fun A F => ?_)
          refine Sx.sv F (Sx.d_move F (Or.inr rfl) rfl) (Sx.wanted_none rfl _) rfl (by decide) (fun A F => ?_)
          refine Sx.nil ?_
          try dsimp only [Exit.then]
          exact ⟨128 - (i + 1), by omega, i + 1, y + 1#128 <<< i, rfl, by omega, R9.flip hn hlt hok (hb.trans (by rw [decide_eq_false hz]; rfl)), F.to ⟨rfl, rfl, rfl, rfl, trivial⟩, H⟩
  · obtain rfl : i = 128 := by omega
    refine Sx.seq (fun K35 hK35 => ?_)
    refine Sx.seq (fun K36 hK36 => ?_)
    refine Sx.plain ?_
    refine Sx.sv F (Sx.d_move F (Or.inl rfl) rfl) (Sx.wanted_none rfl _) rfl (by decide) (fun A F => ?_)
    refine Sx.sv F (Sx.d_bin (v := .bool false) F rfl rfl rfl (Sx.i_lt (by decide))) (Sx.wanted_none rfl _) rfl (by decide) (fun A F => ?_)
    refine Sx.nil ?_
    refine hK36 _ _ ?_
    refine Sx.condF F rfl ?_
    refine wp_exit ?_
    try dsimp only [Exit.then, Exit.jump]
    refine Sx.exit_here ?_
    refine hK5 _ _ ?_
    refine Sx.seq (fun K37 hK37 => ?_)
    refine Sx.plain ?_
    refine Sx.sv F (Sx.d_load (i := 0) (xs := [.int .u64 ((Wd.hi y).toNat), .int .u64 ((Wd.lo y).toNat)]) rw_31 F H rfl rfl rfl rfl rfl) (Sx.wanted_none rfl _) rfl (by decide) (fun A F => ?_)
    refine Sx.ss F (Sx.d_store (i := 1) (xs := [.int .u64 ((Wd.hi y).toNat), .int .u64 ((Wd.lo y).toNat)]) (us := [.int .u64 ((Wd.hi y).toNat), .int .u64 ((Wd.lo y).toNat)]) sz_31 F H rfl rfl rfl rfl rfl rfl rfl (Nat.le_of_ble_eq_true rfl) rfl) (Sx.wanted_none rfl _) rfl (fun A w F (H : Sx.Own w0 _ [(true, g3, [.int .u64 ((Wd.hi y).toNat), .int .u64 ((Wd.lo y).toNat)]), (true, g2, [.int .u64 ((Wd.hi y).toNat), .int .u64 ((Wd.lo y).toNat)]), (true, g1, [.int .u64 ((Wd.hi da).toNat), .int .u64 ((Wd.lo da).toNat)])] []) => ?_)
    refine Sx.sv F (Sx.d_move F (Or.inr rfl) rfl) (Sx.wanted_none rfl _) rfl (by decide) (fun A F => ?_)
    refine Sx.nil ?_
    refine hK37 _ _ ?_
    refine wp_ret ?_
    try dsimp only [Exit.then, Exit.inBlock, Exit.jump]
    refine Sx.ret2 F Try.results17 (Sx.res_row (i := 1) (xs := [.int .u64 ((Wd.hi y).toNat), .int .u64 ((Wd.lo y).toNat)]) rw_31 F H rfl rfl rfl rfl) (Sx.res_tmp (v := .int .i64 0) F rfl) ⟨?_, H.below⟩
    rw [R9.done hn hok]
set_option maxRecDepth 100000 in
theorem rodd9_no (da : BitVec 128) (hn : Af.odd da = false) (w0 : World) : Calls Try.prog 17 #[.agg #[.int .u64 ((Wd.hi da).toNat), .int .u64 ((Wd.lo da).toNat)]] w0 fun e w' => e = .returned (.tuple #[.agg #[.int .u64 ((Wd.hi 0#128).toNat), .int .u64 ((Wd.lo 0#128).toNat)], .int .i64 1]) ∧ Below w0.heap.size w0 w' := by
  refine Sx.enter (args := [.agg #[.int .u64 ((Wd.hi da).toNat), .int .u64 ((Wd.lo da).toNat)]]) Try.func17 rfl Try.ntmps17 (Nat.le_of_ble_eq_true rfl) (fun A F => ?_)
  have H := Sx.Own.start w0
  refine Sx.seq (fun K1 hK1 => ?_)
  refine Sx.plain ?_
  refine Sx.sb F (Sx.d_box F H rfl rfl [.int .u64 ((Wd.hi da).toNat), .int .u64 ((Wd.lo da).toNat)] rfl) (Sx.wanted_none rfl _) rfl (by decide) (fun g1 A w F H => ?_)
  refine Sx.sb F (Sx.d_alloc H rfl [.int .u64 ((Wd.hi 0#128).toNat), .int .u64 ((Wd.lo 0#128).toNat)] zero_31) (Sx.wanted_none rfl _) rfl (by decide) (fun g2 A w F H => ?_)
  refine Sx.sv F (Sx.d_move F (Or.inr rfl) rfl) (Sx.wanted_none rfl _) rfl (by decide) (fun A F => ?_)
  refine Sx.nil ?_
  refine hK1 _ _ ?_
  refine Sx.seq (fun K2 hK2 => ?_)
  refine Sx.seq (fun K3 hK3 => ?_)
  refine Sx.plain ?_
  refine Sx.sv F (Sx.d_faddr (v := .pointer (some ⟨g1, 1, none⟩)) F rfl rfl (fa_31_1 _ 0 _)) (Sx.wanted_none rfl _) rfl (by decide) (fun A F => ?_)
  refine Sx.sv F (Sx.d_load1 (i := 1) (v := .int .u64 ((Wd.lo da).toNat)) one_22 F H rfl rfl rfl rfl) (Sx.wanted_none rfl _) rfl (by decide) (fun A F => ?_)
  refine Sx.sv F (Sx.d_bin (v := .int .u64 (((Wd.lo da) % 2#64).toNat)) F rfl rfl rfl (Sx.i_rem64 (Wd.lo da) 2#64 (by decide))) (Sx.wanted_none rfl _) rfl (by decide) (fun A F => ?_)
  refine Sx.sv F (Sx.d_bin (v := .bool true) F rfl rfl rfl (Sx.i_eq (by rw [R9.par da false hn]; rfl))) (Sx.wanted_none rfl _) rfl (by decide) (fun A F => ?_)
  refine Sx.nil ?_
  refine hK3 _ _ ?_
  refine Sx.condT F rfl ?_
  refine Sx.seq (fun K4 hK4 => ?_)
  refine Sx.plain ?_
  refine Sx.sv F (Sx.d_build (qs := #[]) (v := .agg #[.int .u64 ((Wd.hi 0#128).toNat), .int .u64 ((Wd.lo 0#128).toNat)]) F rfl rfl (by kernel_rfl)) (Sx.wanted_none rfl _) rfl (by decide) (fun A F => ?_)
  refine Sx.ss F (Sx.d_store (i := 0) (xs := [.int .u64 ((Wd.hi 0#128).toNat), .int .u64 ((Wd.lo 0#128).toNat)]) (us := [.int .u64 ((Wd.hi 0#128).toNat), .int .u64 ((Wd.lo 0#128).toNat)]) sz_31 F H rfl rfl rfl rfl rfl rfl rfl (Nat.le_of_ble_eq_true rfl) rfl) (Sx.wanted_none rfl _) rfl (fun A w F (H : Sx.Own w0 _ [(true, g2, [.int .u64 ((Wd.hi 0#128).toNat), .int .u64 ((Wd.lo 0#128).toNat)]), (true, g1, [.int .u64 ((Wd.hi da).toNat), .int .u64 ((Wd.lo da).toNat)])] []) => ?_)
  refine Sx.sv F (Sx.d_move F (Or.inr rfl) rfl) (Sx.wanted_none rfl _) rfl (by decide) (fun A F => ?_)
  refine Sx.nil ?_
  refine hK4 _ _ ?_
  refine wp_ret ?_
  try dsimp only [Exit.then, Exit.inBlock, Exit.jump]
  refine Sx.ret2 F Try.results17 (Sx.res_row (i := 0) (xs := [.int .u64 ((Wd.hi 0#128).toNat), .int .u64 ((Wd.lo 0#128).toNat)]) rw_31 F H rfl rfl rfl rfl) (Sx.res_tmp (v := .int .i64 1) F rfl) ⟨?_, H.below⟩
  rfl
theorem rodd9T_c (x : BitVec 128) (w : World) : Calls Try.prog 17 #[.agg #[.int .u64 ((Wd.hi x).toNat), .int .u64 ((Wd.lo x).toNat)]] w fun e w' => e = .returned (.tuple #[.agg #[.int .u64 ((Wd.hi (Af.oddv x)).toNat), .int .u64 ((Wd.lo (Af.oddv x)).toNat)], .int .i64 (Af.odde x)]) ∧ Below w.heap.size w w' := by
  cases h : Af.odd x
  · rw [Af.oddv_f h, Af.odde_f h]; exact rodd9_no x h w
  · rw [Af.oddv_t h, Af.odde_t h]; exact rodd9_ok x h w
theorem aoddT_c (x : BitVec 128) (w : World) : Calls Try.prog 16 #[.agg #[.int .u64 ((Wd.hi x).toNat), .int .u64 ((Wd.lo x).toNat)]] w fun e w' => e = .returned (.tuple #[.agg #[.int .u64 ((Wd.hi (Af.oddv x)).toNat), .int .u64 ((Wd.lo (Af.oddv x)).toNat)], .int .i64 (Af.odde x)]) ∧ Below w.heap.size w w' := by
  cases h : Af.odd x
  · rw [Af.oddv_f h, Af.odde_f h]; exact Calls.val (aodd_no x h w) rfl (by kernel_rfl)
  · rw [Af.oddv_t h, Af.odde_t h]; exact aodd_ok x h w
end Go.Proofs.Ytpbdffmgendboaa
