/- affine.Power walked. -/
import Derived.Test.YtpbdffmgendboaaSxE
import Derived.Test.YtpbdffmgendboaaAf
import Derived.Test.YtpbdffmgendboaaAfB
namespace Go.Proofs.Ytpbdffmgendboaa
open Go Go.RowKit
set_option maxHeartbeats 4000000 in
set_option maxRecDepth 100000 in
theorem apow_c (ma mc n : BitVec 128) (w0 : World) : Calls Try.prog 24 #[.agg #[.int .u64 ((Wd.hi ma).toNat), .int .u64 ((Wd.lo ma).toNat), .int .u64 ((Wd.hi mc).toNat), .int .u64 ((Wd.lo mc).toNat)], .agg #[.int .u64 ((Wd.hi n).toNat), .int .u64 ((Wd.lo n).toNat)]] w0 fun e w' => e = .returned (.agg #[.int .u64 ((Wd.hi ((Af.pow ⟨ma, mc⟩ n.toNat).a)).toNat), .int .u64 ((Wd.lo ((Af.pow ⟨ma, mc⟩ n.toNat).a)).toNat), .int .u64 ((Wd.hi ((Af.pow ⟨ma, mc⟩ n.toNat).c)).toNat), .int .u64 ((Wd.lo ((Af.pow ⟨ma, mc⟩ n.toNat).c)).toNat)]) ∧ Below w0.heap.size w0 w' := by
  refine Sx.enter (args := [.agg #[.int .u64 ((Wd.hi ma).toNat), .int .u64 ((Wd.lo ma).toNat), .int .u64 ((Wd.hi mc).toNat), .int .u64 ((Wd.lo mc).toNat)], .agg #[.int .u64 ((Wd.hi n).toNat), .int .u64 ((Wd.lo n).toNat)]]) Try.func24 rfl Try.ntmps24 (Nat.le_of_ble_eq_true rfl) (fun A F => ?_)
  have H := Sx.Own.start w0
  refine Sx.seq (fun K1 hK1 => ?_)
  refine Sx.plain ?_
  refine Sx.sb F (Sx.d_box F H rfl rfl [.int .u64 ((Wd.hi ma).toNat), .int .u64 ((Wd.lo ma).toNat), .int .u64 ((Wd.hi mc).toNat), .int .u64 ((Wd.lo mc).toNat)] rfl) (Sx.wanted_none rfl _) rfl (by decide) (fun g1 A w F H => ?_)
  refine Sx.sb F (Sx.d_box F H rfl rfl [.int .u64 ((Wd.hi n).toNat), .int .u64 ((Wd.lo n).toNat)] rfl) (Sx.wanted_none rfl _) rfl (by decide) (fun g2 A w F H => ?_)
  refine Sx.sb F (Sx.d_alloc H rfl [.int .u64 ((Wd.hi 0#128).toNat), .int .u64 ((Wd.lo 0#128).toNat), .int .u64 ((Wd.hi 0#128).toNat), .int .u64 ((Wd.lo 0#128).toNat)] zero_26) (Sx.wanted_none rfl _) rfl (by decide) (fun g3 A w F H => ?_)
  refine Sx.nil ?_
  refine hK1 _ _ ?_
  refine Sx.scope 0 (fun m A w => ∃ (ob : Nat) (A' C' N' OA OC : BitVec 128), m = N'.toNat ∧ Af.thn ⟨OA, OC⟩ (Af.pow ⟨A', C'⟩ N'.toNat) = Af.pow ⟨ma, mc⟩ n.toNat ∧ Sx.Fr 22 A [(2, .pointer (some ⟨g1, 0, none⟩)), (3, .pointer (some ⟨g2, 0, none⟩)), (4, .pointer (some ⟨g3, 0, none⟩)), (5, .pointer (some ⟨ob, 0, none⟩))] ∧ Sx.Own w0 w [(true, ob, [.int .u64 ((Wd.hi OA).toNat), .int .u64 ((Wd.lo OA).toNat), .int .u64 ((Wd.hi OC).toNat), .int .u64 ((Wd.lo OC).toNat)]), (true, g3, [.int .u64 ((Wd.hi 0#128).toNat), .int .u64 ((Wd.lo 0#128).toNat), .int .u64 ((Wd.hi 0#128).toNat), .int .u64 ((Wd.lo 0#128).toNat)]), (true, g2, [.int .u64 ((Wd.hi N').toNat), .int .u64 ((Wd.lo N').toNat)]), (true, g1, [.int .u64 ((Wd.hi A').toNat), .int .u64 ((Wd.lo A').toNat), .int .u64 ((Wd.hi C').toNat), .int .u64 ((Wd.lo C').toNat)])] []) rfl ?_ (fun first => ?_)
  · rintro m A w ⟨ob, A', C', N', OA, OC, rfl, hJ, F, H⟩
    by_cases hz : N' = 0#128
    · skip
      refine Sx.seq (fun K2 hK2 => ?_)
      refine Sx.seq (fun K3 hK3 => ?_)
      refine Sx.plain ?_
      refine Sx.sv F (Sx.d_load (i := 2) (xs := [.int .u64 ((Wd.hi N').toNat), .int .u64 ((Wd.lo N').toNat)]) rw_24 F H rfl rfl rfl rfl rfl) (Sx.wanted_none rfl _) rfl (by decide) (fun A F => ?_)
      refine Sx.sv F (Sx.d_build (qs := #[]) (v := .agg #[.int .u64 ((Wd.hi 0#128).toNat), .int .u64 ((Wd.lo 0#128).toNat)]) F rfl rfl (by kernel_rfl)) (Sx.wanted_none rfl _) rfl (by decide) (fun A F => ?_)
      refine Sx.sv F (Sx.d_bin (v := .bool true) F rfl rfl rfl (Sx.i_eqV (by rw [hz]; exact eqb_self _))) (Sx.wanted_none rfl _) rfl (by decide) (fun A F => ?_)
      refine Sx.nil ?_
      refine hK3 _ _ ?_
      refine Sx.condT F rfl ?_
      refine Sx.seq (fun K4 hK4 => ?_)
      refine Sx.plain ?_
      refine Sx.sv F (Sx.d_load (i := 0) (xs := [.int .u64 ((Wd.hi OA).toNat), .int .u64 ((Wd.lo OA).toNat), .int .u64 ((Wd.hi OC).toNat), .int .u64 ((Wd.lo OC).toNat)]) rw_26 F H rfl rfl rfl rfl rfl) (Sx.wanted_none rfl _) rfl (by decide) (fun A F => ?_)
      refine Sx.ss F (Sx.d_store (i := 1) (xs := [.int .u64 ((Wd.hi OA).toNat), .int .u64 ((Wd.lo OA).toNat), .int .u64 ((Wd.hi OC).toNat), .int .u64 ((Wd.lo OC).toNat)]) (us := [.int .u64 ((Wd.hi OA).toNat), .int .u64 ((Wd.lo OA).toNat), .int .u64 ((Wd.hi OC).toNat), .int .u64 ((Wd.lo OC).toNat)]) sz_26 F H rfl rfl rfl rfl rfl rfl rfl (Nat.le_of_ble_eq_true rfl) rfl) (Sx.wanted_none rfl _) rfl (fun A w F (H : Sx.Own w0 _ [(true, ob, [.int .u64 ((Wd.hi OA).toNat), .int .u64 ((Wd.lo OA).toNat), .int .u64 ((Wd.hi OC).toNat), .int .u64 ((Wd.lo OC).toNat)]), (true, g3, [.int .u64 ((Wd.hi OA).toNat), .int .u64 ((Wd.lo OA).toNat), .int .u64 ((Wd.hi OC).toNat), .int .u64 ((Wd.lo OC).toNat)]), (true, g2, [.int .u64 ((Wd.hi N').toNat), .int .u64 ((Wd.lo N').toNat)]), (true, g1, [.int .u64 ((Wd.hi A').toNat), .int .u64 ((Wd.lo A').toNat), .int .u64 ((Wd.hi C').toNat), .int .u64 ((Wd.lo C').toNat)])] []) => ?_)
      refine Sx.nil ?_
      refine hK4 _ _ ?_
      refine wp_ret ?_
      try dsimp only [Exit.then, Exit.inBlock, Exit.jump]
      refine Sx.ret1 F Try.results24 (Sx.res_row (i := 1) (xs := [.int .u64 ((Wd.hi OA).toNat), .int .u64 ((Wd.lo OA).toNat), .int .u64 ((Wd.hi OC).toNat), .int .u64 ((Wd.lo OC).toNat)]) rw_26 F H rfl rfl rfl rfl) ⟨?_, H.below⟩
      exact congrArg Ending.returned (by rw [show Af.pow ⟨ma, mc⟩ n.toNat = ⟨OA, OC⟩ from by rw [← hJ, hz]; exact Af.thn_one _])
    · skip
      have hlt : (N' >>> 1).toNat < N'.toNat := by rw [Af.half_nat]; have : N'.toNat ≠ 0 := fun e => hz (BitVec.eq_of_toNat_eq (by rw [e]; rfl)); omega
      cases ho : Af.odd N'
      · skip
        refine Sx.seq (fun K5 hK5 => ?_)
        refine Sx.seq (fun K6 hK6 => ?_)
        refine Sx.plain ?_
        refine Sx.sv F (Sx.d_load (i := 2) (xs := [.int .u64 ((Wd.hi N').toNat), .int .u64 ((Wd.lo N').toNat)]) rw_24 F H rfl rfl rfl rfl rfl) (Sx.wanted_none rfl _) rfl (by decide) (fun A F => ?_)
        refine Sx.sv F (Sx.d_build (qs := #[]) (v := .agg #[.int .u64 ((Wd.hi 0#128).toNat), .int .u64 ((Wd.lo 0#128).toNat)]) F rfl rfl (by kernel_rfl)) (Sx.wanted_none rfl _) rfl (by decide) (fun A F => ?_)
        refine Sx.sv F (Sx.d_bin (v := .bool false) F rfl rfl rfl (Sx.i_eqV (eqb_ne hz))) (Sx.wanted_none rfl _) rfl (by decide) (fun A F => ?_)
        refine Sx.nil ?_
        refine hK6 _ _ ?_
        refine Sx.condF F rfl ?_
        refine wp_skip ?_
        refine hK5 _ _ ?_
        refine Sx.seq (fun K7 hK7 => ?_)
        refine Sx.seq (fun K8 hK8 => ?_)
        refine Sx.plain ?_
        refine Sx.sv F (Sx.d_load (i := 2) (xs := [.int .u64 ((Wd.hi N').toNat), .int .u64 ((Wd.lo N').toNat)]) rw_24 F H rfl rfl rfl rfl rfl) (Sx.wanted_none rfl _) rfl (by decide) (fun A F => ?_)
        refine Sx.sw F (Sx.d_call (vs := [.agg #[.int .u64 ((Wd.hi N').toNat), .int .u64 ((Wd.lo N').toNat)], .int .i64 0]) (v := .int .i64 (Wd.bit N' 0)) if_30 F H rfl rfl (wbit_c N' 0 (by omega) _)) (Sx.wanted_none rfl _) rfl (by decide) (fun A w F H => ?_)
        refine Sx.sv F (Sx.d_bin (v := .bool false) F rfl rfl rfl (Sx.i_eq (by rw [bit_odd, ho]; rfl))) (Sx.wanted_none rfl _) rfl (by decide) (fun A F => ?_)
        refine Sx.nil ?_
        refine hK8 _ _ ?_
        refine Sx.condF F rfl ?_
        refine wp_skip ?_
        refine hK7 _ _ ?_
        refine Sx.seq (fun K9 hK9 => ?_)
        have F := Sx.Fr.to F (kv' := [(2, .pointer (some ⟨g1, 0, none⟩)), (3, .pointer (some ⟨g2, 0, none⟩)), (4, .pointer (some ⟨g3, 0, none⟩)), (5, .pointer (some ⟨ob, 0, none⟩)), (7, .agg #[.int .u64 ((Wd.hi N').toNat), .int .u64 ((Wd.lo N').toNat)]), (8, .agg #[.int .u64 ((Wd.hi 0#128).toNat), .int .u64 ((Wd.lo 0#128).toNat)]), (9, .bool false), (11, .agg #[.int .u64 ((Wd.hi N').toNat), .int .u64 ((Wd.lo N').toNat)]), (12, .int .i64 (Wd.bit N' 0)), (13, .bool false)]) ⟨rfl, rfl, rfl, rfl, rfl, rfl, rfl, rfl, rfl, rfl, trivial⟩
        refine Sx.drawn F (by kernel_rfl) (by kernel_rfl) (by kernel_rfl) [some (.agg #[.int .u64 ((Wd.hi A').toNat), .int .u64 ((Wd.lo A').toNat), .int .u64 ((Wd.hi C').toNat), .int .u64 ((Wd.lo C').toNat)]), some (.agg #[.int .u64 ((Wd.hi A').toNat), .int .u64 ((Wd.lo A').toNat), .int .u64 ((Wd.hi C').toNat), .int .u64 ((Wd.lo C').toNat)]), some (.agg #[.int .u64 ((Wd.hi (A' * A')).toNat), .int .u64 ((Wd.lo (A' * A')).toNat), .int .u64 ((Wd.hi (A' * C' + C')).toNat), .int .u64 ((Wd.lo (A' * C' + C')).toNat)]), some (.agg #[.int .u64 ((Wd.hi N').toNat), .int .u64 ((Wd.lo N').toNat)]), some (.agg #[.int .u64 ((Wd.hi (N' >>> 1)).toNat), .int .u64 ((Wd.lo (N' >>> 1)).toNat)]), none, none] (fun L A w => Sx.Own w0 w [(true, ob, [.int .u64 ((Wd.hi OA).toNat), .int .u64 ((Wd.lo OA).toNat), .int .u64 ((Wd.hi OC).toNat), .int .u64 ((Wd.lo OC).toNat)]), (true, g3, [.int .u64 ((Wd.hi 0#128).toNat), .int .u64 ((Wd.lo 0#128).toNat), .int .u64 ((Wd.hi 0#128).toNat), .int .u64 ((Wd.lo 0#128).toNat)]), (true, g2, (cond (L 6) [.int .u64 ((Wd.hi (N' >>> 1)).toNat), .int .u64 ((Wd.lo (N' >>> 1)).toNat)] [.int .u64 ((Wd.hi N').toNat), .int .u64 ((Wd.lo N').toNat)])), (true, g1, (cond (L 5) [.int .u64 ((Wd.hi (A' * A')).toNat), .int .u64 ((Wd.lo (A' * A')).toNat), .int .u64 ((Wd.hi (A' * C' + C')).toNat), .int .u64 ((Wd.lo (A' * C' + C')).toNat)] [.int .u64 ((Wd.hi A').toNat), .int .u64 ((Wd.lo A').toNat), .int .u64 ((Wd.hi C').toNat), .int .u64 ((Wd.lo C').toNat)]))] []) H.drew ?_ ?_
        · refine ⟨?_, ?_, ?_, ?_, ?_, ?_, ?_, trivial⟩
          · show Sx.StepAt _ _ _ _ _ _ _ 0
            intro L A w up hun hd F H
            have f5 : L 5 = false := up 5 0 rfl hun
            have f6 : L 6 = false := up 6 0 rfl hun
            rw [f5, f6] at H
            have F := Sx.Fr.to F (kv' := [(2, .pointer (some ⟨g1, 0, none⟩))]) ⟨rfl, trivial⟩
            refine Sx.step_on rfl (Sx.d_load (i := 3) (xs := [.int .u64 ((Wd.hi A').toNat), .int .u64 ((Wd.lo A').toNat), .int .u64 ((Wd.hi C').toNat), .int .u64 ((Wd.lo C').toNat)]) rw_26 F H rfl rfl rfl rfl rfl) ?_
            rintro xv w' ⟨hx, rfl⟩
            exact ⟨(fun cv hc => hx.trans (Option.some.inj (Option.some.inj hc))), (by show Sx.Own _ _ _ _; rw [show Inv.add L 0 5 = false from f5, show Inv.add L 0 6 = false from f6]; exact H)⟩
          · show Sx.StepAt _ _ _ _ _ _ _ 1
            intro L A w up hun hd F H
            have f5 : L 5 = false := up 5 1 rfl hun
            have f6 : L 6 = false := up 6 1 rfl hun
            rw [f5, f6] at H
            have F := Sx.Fr.to F (kv' := [(2, .pointer (some ⟨g1, 0, none⟩))]) ⟨rfl, trivial⟩
            refine Sx.step_on rfl (Sx.d_load (i := 3) (xs := [.int .u64 ((Wd.hi A').toNat), .int .u64 ((Wd.lo A').toNat), .int .u64 ((Wd.hi C').toNat), .int .u64 ((Wd.lo C').toNat)]) rw_26 F H rfl rfl rfl rfl rfl) ?_
            rintro xv w' ⟨hx, rfl⟩
            exact ⟨(fun cv hc => hx.trans (Option.some.inj (Option.some.inj hc))), (by show Sx.Own _ _ _ _; rw [show Inv.add L 1 5 = false from f5, show Inv.add L 1 6 = false from f6]; exact H)⟩
          · show Sx.StepAt _ _ _ _ _ _ _ 2
            intro L A w up hun hd F H
            have f5 : L 5 = false := up 5 2 rfl hun
            have f6 : L 6 = false := up 6 2 rfl hun
            rw [f5, f6] at H
            have F := Sx.Fr.to F (kv' := [(17, .agg #[.int .u64 ((Wd.hi A').toNat), .int .u64 ((Wd.lo A').toNat), .int .u64 ((Wd.hi C').toNat), .int .u64 ((Wd.lo C').toNat)]), (18, .agg #[.int .u64 ((Wd.hi A').toNat), .int .u64 ((Wd.lo A').toNat), .int .u64 ((Wd.hi C').toNat), .int .u64 ((Wd.lo C').toNat)])]) ⟨rfl, rfl, trivial⟩
            refine Sx.step_on rfl (Sx.d_call (vs := [.agg #[.int .u64 ((Wd.hi A').toNat), .int .u64 ((Wd.lo A').toNat), .int .u64 ((Wd.hi C').toNat), .int .u64 ((Wd.lo C').toNat)], .agg #[.int .u64 ((Wd.hi A').toNat), .int .u64 ((Wd.lo A').toNat), .int .u64 ((Wd.hi C').toNat), .int .u64 ((Wd.lo C').toNat)]]) (v := .agg #[.int .u64 ((Wd.hi (A' * A')).toNat), .int .u64 ((Wd.lo (A' * A')).toNat), .int .u64 ((Wd.hi (A' * C' + C')).toNat), .int .u64 ((Wd.lo (A' * C' + C')).toNat)]) if_23 F H rfl rfl (athen_c A' C' A' C' _)) ?_
            rintro xv w' ⟨hx, H⟩
            exact ⟨(fun cv hc => hx.trans (Option.some.inj (Option.some.inj hc))), (by show Sx.Own _ _ _ _; rw [show Inv.add L 2 5 = false from f5, show Inv.add L 2 6 = false from f6]; exact H)⟩
          · show Sx.StepAt _ _ _ _ _ _ _ 3
            intro L A w up hun hd F H
            have f4 : L 4 = false := up 4 3 rfl hun
            have f5 : L 5 = false := up 5 4 rfl f4
            have f6 : L 6 = false := up 6 3 rfl hun
            rw [f5, f6] at H
            have F := Sx.Fr.to F (kv' := [(3, .pointer (some ⟨g2, 0, none⟩))]) ⟨rfl, trivial⟩
            refine Sx.step_on rfl (Sx.d_load (i := 2) (xs := [.int .u64 ((Wd.hi N').toNat), .int .u64 ((Wd.lo N').toNat)]) rw_24 F H rfl rfl rfl rfl rfl) ?_
            rintro xv w' ⟨hx, rfl⟩
            exact ⟨(fun cv hc => hx.trans (Option.some.inj (Option.some.inj hc))), (by show Sx.Own _ _ _ _; rw [show Inv.add L 3 5 = false from f5, show Inv.add L 3 6 = false from f6]; exact H)⟩
          · show Sx.StepAt _ _ _ _ _ _ _ 4
            intro L A w up hun hd F H
            have f5 : L 5 = false := up 5 4 rfl hun
            have f6 : L 6 = false := up 6 4 rfl hun
            rw [f5, f6] at H
            have F := Sx.Fr.to F (kv' := [(20, .agg #[.int .u64 ((Wd.hi N').toNat), .int .u64 ((Wd.lo N').toNat)])]) ⟨rfl, trivial⟩
            refine Sx.step_on rfl (Sx.d_call (vs := [.agg #[.int .u64 ((Wd.hi N').toNat), .int .u64 ((Wd.lo N').toNat)], .int .i64 1]) (v := .agg #[.int .u64 ((Wd.hi (N' >>> 1)).toNat), .int .u64 ((Wd.lo (N' >>> 1)).toNat)]) if_64 F H rfl rfl (Calls.val (wright_c N' 1 (by omega) _) rfl (by kernel_rfl))) ?_
            rintro xv w' ⟨hx, H⟩
            exact ⟨(fun cv hc => hx.trans (Option.some.inj (Option.some.inj hc))), (by show Sx.Own _ _ _ _; rw [show Inv.add L 4 5 = false from f5, show Inv.add L 4 6 = false from f6]; exact H)⟩
          · show Sx.StepAt _ _ _ _ _ _ _ 5
            intro L A w up hun hd F H
            have f5 : L 5 = false := hun
            have f6 : L 6 = false := up 6 5 rfl hun
            rw [f5, f6] at H
            have F := Sx.Fr.to F (kv' := [(2, .pointer (some ⟨g1, 0, none⟩)), (19, .agg #[.int .u64 ((Wd.hi (A' * A')).toNat), .int .u64 ((Wd.lo (A' * A')).toNat), .int .u64 ((Wd.hi (A' * C' + C')).toNat), .int .u64 ((Wd.lo (A' * C' + C')).toNat)])]) ⟨rfl, rfl, trivial⟩
            refine Sx.step_on rfl (Sx.d_store (i := 3) (xs := [.int .u64 ((Wd.hi (A' * A')).toNat), .int .u64 ((Wd.lo (A' * A')).toNat), .int .u64 ((Wd.hi (A' * C' + C')).toNat), .int .u64 ((Wd.lo (A' * C' + C')).toNat)]) (us := [.int .u64 ((Wd.hi (A' * A')).toNat), .int .u64 ((Wd.lo (A' * A')).toNat), .int .u64 ((Wd.hi (A' * C' + C')).toNat), .int .u64 ((Wd.lo (A' * C' + C')).toNat)]) sz_26 F H rfl rfl rfl rfl rfl rfl rfl (Nat.le_of_ble_eq_true rfl) rfl) ?_
            intro xv w' H
            exact ⟨(fun cv hc => by have h := Option.some.inj hc; cases h), (by show Sx.Own _ _ _ _; rw [show Inv.add L 5 6 = false from f6]; exact H)⟩
          · show Sx.StepAt _ _ _ _ _ _ _ 6
            intro L A w up hun hd F H
            have t5 : L 5 = true := hd 5 rfl
            have f6 : L 6 = false := hun
            rw [t5, f6] at H
            have F := Sx.Fr.to F (kv' := [(3, .pointer (some ⟨g2, 0, none⟩)), (21, .agg #[.int .u64 ((Wd.hi (N' >>> 1)).toNat), .int .u64 ((Wd.lo (N' >>> 1)).toNat)])]) ⟨rfl, rfl, trivial⟩
            refine Sx.step_on rfl (Sx.d_store (i := 2) (xs := [.int .u64 ((Wd.hi (N' >>> 1)).toNat), .int .u64 ((Wd.lo (N' >>> 1)).toNat)]) (us := [.int .u64 ((Wd.hi (N' >>> 1)).toNat), .int .u64 ((Wd.lo (N' >>> 1)).toNat)]) sz_24 F H rfl rfl rfl rfl rfl rfl rfl (Nat.le_of_ble_eq_true rfl) rfl) ?_
            intro xv w' H
            exact ⟨(fun cv hc => by have h := Option.some.inj hc; cases h), (by show Sx.Own _ _ _ _; rw [show Inv.add L 6 5 = true from t5]; exact H)⟩
        · intro L A w hL F H
          have t5 : L 5 = true := hL 5 rfl
          have t6 : L 6 = true := hL 6 rfl
          rw [t5, t6] at H
          have F := Sx.Fr.to F (kv' := [(2, .pointer (some ⟨g1, 0, none⟩)), (3, .pointer (some ⟨g2, 0, none⟩)), (4, .pointer (some ⟨g3, 0, none⟩)), (5, .pointer (some ⟨ob, 0, none⟩)), (7, .agg #[.int .u64 ((Wd.hi N').toNat), .int .u64 ((Wd.lo N').toNat)]), (8, .agg #[.int .u64 ((Wd.hi 0#128).toNat), .int .u64 ((Wd.lo 0#128).toNat)]), (9, .bool false), (11, .agg #[.int .u64 ((Wd.hi N').toNat), .int .u64 ((Wd.lo N').toNat)]), (12, .int .i64 (Wd.bit N' 0)), (13, .bool false)]) ⟨rfl, rfl, rfl, rfl, rfl, rfl, rfl, rfl, rfl, rfl, trivial⟩
          refine hK9 _ _ ?_
          refine wp_goto ?_
          dsimp only [Exit.then, Exit.inBlock, Exit.jump]
          refine ⟨rfl, (N' >>> 1).toNat, hlt, ob, A' * A', A' * C' + C', N' >>> 1, OA, OC, rfl, ?_, F.to ⟨rfl, rfl, rfl, rfl, trivial⟩, H⟩
          have hr := Af.round ⟨OA, OC⟩ ⟨A', C'⟩ N'; rw [hJ] at hr; unfold Af.next at hr; rw [ho] at hr; exact hr
      · skip
        refine Sx.seq (fun K10 hK10 => ?_)
        refine Sx.seq (fun K11 hK11 => ?_)
        refine Sx.plain ?_
        refine Sx.sv F (Sx.d_load (i := 2) (xs := [.int .u64 ((Wd.hi N').toNat), .int .u64 ((Wd.lo N').toNat)]) rw_24 F H rfl rfl rfl rfl rfl) (Sx.wanted_none rfl _) rfl (by decide) (fun A F => ?_)
        refine Sx.sv F (Sx.d_build (qs := #[]) (v := .agg #[.int .u64 ((Wd.hi 0#128).toNat), .int .u64 ((Wd.lo 0#128).toNat)]) F rfl rfl (by kernel_rfl)) (Sx.wanted_none rfl _) rfl (by decide) (fun A F => ?_)
        refine Sx.sv F (Sx.d_bin (v := .bool false) F rfl rfl rfl (Sx.i_eqV (eqb_ne hz))) (Sx.wanted_none rfl _) rfl (by decide) (fun A F => ?_)
        refine Sx.nil ?_
        refine hK11 _ _ ?_
        refine Sx.condF F rfl ?_
        refine wp_skip ?_
        refine hK10 _ _ ?_
        refine Sx.seq (fun K12 hK12 => ?_)
        refine Sx.seq (fun K13 hK13 => ?_)
        refine Sx.plain ?_
        refine Sx.sv F (Sx.d_load (i := 2) (xs := [.int .u64 ((Wd.hi N').toNat), .int .u64 ((Wd.lo N').toNat)]) rw_24 F H rfl rfl rfl rfl rfl) (Sx.wanted_none rfl _) rfl (by decide) (fun A F => ?_)
        refine Sx.sw F (Sx.d_call (vs := [.agg #[.int .u64 ((Wd.hi N').toNat), .int .u64 ((Wd.lo N').toNat)], .int .i64 0]) (v := .int .i64 (Wd.bit N' 0)) if_30 F H rfl rfl (wbit_c N' 0 (by omega) _)) (Sx.wanted_none rfl _) rfl (by decide) (fun A w F H => ?_)
        refine Sx.sv F (Sx.d_bin (v := .bool true) F rfl rfl rfl (Sx.i_eq (by rw [bit_odd, ho]; rfl))) (Sx.wanted_none rfl _) rfl (by decide) (fun A F => ?_)
        refine Sx.nil ?_
        refine hK13 _ _ ?_
        refine Sx.condT F rfl ?_
        refine Sx.plain ?_
        refine Sx.sv F (Sx.d_load (i := 0) (xs := [.int .u64 ((Wd.hi OA).toNat), .int .u64 ((Wd.lo OA).toNat), .int .u64 ((Wd.hi OC).toNat), .int .u64 ((Wd.lo OC).toNat)]) rw_26 F H rfl rfl rfl rfl rfl) (Sx.wanted_none rfl _) rfl (by decide) (fun A F => ?_)
        refine Sx.sv F (Sx.d_load (i := 3) (xs := [.int .u64 ((Wd.hi A').toNat), .int .u64 ((Wd.lo A').toNat), .int .u64 ((Wd.hi C').toNat), .int .u64 ((Wd.lo C').toNat)]) rw_26 F H rfl rfl rfl rfl rfl) (Sx.wanted_none rfl _) rfl (by decide) (fun A F => ?_)
        refine Sx.sw F (Sx.d_call (vs := [.agg #[.int .u64 ((Wd.hi OA).toNat), .int .u64 ((Wd.lo OA).toNat), .int .u64 ((Wd.hi OC).toNat), .int .u64 ((Wd.lo OC).toNat)], .agg #[.int .u64 ((Wd.hi A').toNat), .int .u64 ((Wd.lo A').toNat), .int .u64 ((Wd.hi C').toNat), .int .u64 ((Wd.lo C').toNat)]]) (v := .agg #[.int .u64 ((Wd.hi (A' * OA)).toNat), .int .u64 ((Wd.lo (A' * OA)).toNat), .int .u64 ((Wd.hi (A' * OC + C')).toNat), .int .u64 ((Wd.lo (A' * OC + C')).toNat)]) if_23 F H rfl rfl (athen_c OA OC A' C' _)) (Sx.wanted_none rfl _) rfl (by decide) (fun A w F H => ?_)
        refine Sx.ss F (Sx.d_store (i := 0) (xs := [.int .u64 ((Wd.hi (A' * OA)).toNat), .int .u64 ((Wd.lo (A' * OA)).toNat), .int .u64 ((Wd.hi (A' * OC + C')).toNat), .int .u64 ((Wd.lo (A' * OC + C')).toNat)]) (us := [.int .u64 ((Wd.hi (A' * OA)).toNat), .int .u64 ((Wd.lo (A' * OA)).toNat), .int .u64 ((Wd.hi (A' * OC + C')).toNat), .int .u64 ((Wd.lo (A' * OC + C')).toNat)]) sz_26 F H rfl rfl rfl rfl rfl rfl rfl (Nat.le_of_ble_eq_true rfl) rfl) (Sx.wanted_none rfl _) rfl (fun A w F (H : Sx.Own w0 _ [(true, ob, [.int .u64 ((Wd.hi (A' * OA)).toNat), .int .u64 ((Wd.lo (A' * OA)).toNat), .int .u64 ((Wd.hi (A' * OC + C')).toNat), .int .u64 ((Wd.lo (A' * OC + C')).toNat)]), (true, g3, [.int .u64 ((Wd.hi 0#128).toNat), .int .u64 ((Wd.lo 0#128).toNat), .int .u64 ((Wd.hi 0#128).toNat), .int .u64 ((Wd.lo 0#128).toNat)]), (true, g2, [.int .u64 ((Wd.hi N').toNat), .int .u64 ((Wd.lo N').toNat)]), (true, g1, [.int .u64 ((Wd.hi A').toNat), .int .u64 ((Wd.lo A').toNat), .int .u64 ((Wd.hi C').toNat), .int .u64 ((Wd.lo C').toNat)])] []) => ?_)
        refine Sx.nil ?_
        refine hK12 _ _ ?_
        refine Sx.seq (fun K14 hK14 => ?_)
        have F := Sx.Fr.to F (kv' := [(2, .pointer (some ⟨g1, 0, none⟩)), (3, .pointer (some ⟨g2, 0, none⟩)), (4, .pointer (some ⟨g3, 0, none⟩)), (5, .pointer (some ⟨ob, 0, none⟩)), (7, .agg #[.int .u64 ((Wd.hi N').toNat), .int .u64 ((Wd.lo N').toNat)]), (8, .agg #[.int .u64 ((Wd.hi 0#128).toNat), .int .u64 ((Wd.lo 0#128).toNat)]), (9, .bool false), (11, .agg #[.int .u64 ((Wd.hi N').toNat), .int .u64 ((Wd.lo N').toNat)]), (12, .int .i64 (Wd.bit N' 0)), (13, .bool true), (14, .agg #[.int .u64 ((Wd.hi OA).toNat), .int .u64 ((Wd.lo OA).toNat), .int .u64 ((Wd.hi OC).toNat), .int .u64 ((Wd.lo OC).toNat)]), (15, .agg #[.int .u64 ((Wd.hi A').toNat), .int .u64 ((Wd.lo A').toNat), .int .u64 ((Wd.hi C').toNat), .int .u64 ((Wd.lo C').toNat)]), (16, .agg #[.int .u64 ((Wd.hi (A' * OA)).toNat), .int .u64 ((Wd.lo (A' * OA)).toNat), .int .u64 ((Wd.hi (A' * OC + C')).toNat), .int .u64 ((Wd.lo (A' * OC + C')).toNat)])]) ⟨rfl, rfl, rfl, rfl, rfl, rfl, rfl, rfl, rfl, rfl, rfl, rfl, rfl, trivial⟩
        refine Sx.drawn F (by kernel_rfl) (by kernel_rfl) (by kernel_rfl) [some (.agg #[.int .u64 ((Wd.hi A').toNat), .int .u64 ((Wd.lo A').toNat), .int .u64 ((Wd.hi C').toNat), .int .u64 ((Wd.lo C').toNat)]), some (.agg #[.int .u64 ((Wd.hi A').toNat), .int .u64 ((Wd.lo A').toNat), .int .u64 ((Wd.hi C').toNat), .int .u64 ((Wd.lo C').toNat)]), some (.agg #[.int .u64 ((Wd.hi (A' * A')).toNat), .int .u64 ((Wd.lo (A' * A')).toNat), .int .u64 ((Wd.hi (A' * C' + C')).toNat), .int .u64 ((Wd.lo (A' * C' + C')).toNat)]), some (.agg #[.int .u64 ((Wd.hi N').toNat), .int .u64 ((Wd.lo N').toNat)]), some (.agg #[.int .u64 ((Wd.hi (N' >>> 1)).toNat), .int .u64 ((Wd.lo (N' >>> 1)).toNat)]), none, none] (fun L A w => Sx.Own w0 w [(true, ob, [.int .u64 ((Wd.hi (A' * OA)).toNat), .int .u64 ((Wd.lo (A' * OA)).toNat), .int .u64 ((Wd.hi (A' * OC + C')).toNat), .int .u64 ((Wd.lo (A' * OC + C')).toNat)]), (true, g3, [.int .u64 ((Wd.hi 0#128).toNat), .int .u64 ((Wd.lo 0#128).toNat), .int .u64 ((Wd.hi 0#128).toNat), .int .u64 ((Wd.lo 0#128).toNat)]), (true, g2, (cond (L 6) [.int .u64 ((Wd.hi (N' >>> 1)).toNat), .int .u64 ((Wd.lo (N' >>> 1)).toNat)] [.int .u64 ((Wd.hi N').toNat), .int .u64 ((Wd.lo N').toNat)])), (true, g1, (cond (L 5) [.int .u64 ((Wd.hi (A' * A')).toNat), .int .u64 ((Wd.lo (A' * A')).toNat), .int .u64 ((Wd.hi (A' * C' + C')).toNat), .int .u64 ((Wd.lo (A' * C' + C')).toNat)] [.int .u64 ((Wd.hi A').toNat), .int .u64 ((Wd.lo A').toNat), .int .u64 ((Wd.hi C').toNat), .int .u64 ((Wd.lo C').toNat)]))] []) H.drew ?_ ?_
        · refine ⟨?_, ?_, ?_, ?_, ?_, ?_, ?_, trivial⟩
          · show Sx.StepAt _ _ _ _ _ _ _ 0
            intro L A w up hun hd F H
            have f5 : L 5 = false := up 5 0 rfl hun
            have f6 : L 6 = false := up 6 0 rfl hun
            rw [f5, f6] at H
            have F := Sx.Fr.to F (kv' := [(2, .pointer (some ⟨g1, 0, none⟩))]) ⟨rfl, trivial⟩
            refine Sx.step_on rfl (Sx.d_load (i := 3) (xs := [.int .u64 ((Wd.hi A').toNat), .int .u64 ((Wd.lo A').toNat), .int .u64 ((Wd.hi C').toNat), .int .u64 ((Wd.lo C').toNat)]) rw_26 F H rfl rfl rfl rfl rfl) ?_
            rintro xv w' ⟨hx, rfl⟩
            exact ⟨(fun cv hc => hx.trans (Option.some.inj (Option.some.inj hc))), (by show Sx.Own _ _ _ _; rw [show Inv.add L 0 5 = false from f5, show Inv.add L 0 6 = false from f6]; exact H)⟩
          · show Sx.StepAt _ _ _ _ _ _ _ 1
            intro L A w up hun hd F H
            have f5 : L 5 = false := up 5 1 rfl hun
            have f6 : L 6 = false := up 6 1 rfl hun
            rw [f5, f6] at H
            have F := Sx.Fr.to F (kv' := [(2, .pointer (some ⟨g1, 0, none⟩))]) ⟨rfl, trivial⟩
            refine Sx.step_on rfl (Sx.d_load (i := 3) (xs := [.int .u64 ((Wd.hi A').toNat), .int .u64 ((Wd.lo A').toNat), .int .u64 ((Wd.hi C').toNat), .int .u64 ((Wd.lo C').toNat)]) rw_26 F H rfl rfl rfl rfl rfl) ?_
            rintro xv w' ⟨hx, rfl⟩
            exact ⟨(fun cv hc => hx.trans (Option.some.inj (Option.some.inj hc))), (by show Sx.Own _ _ _ _; rw [show Inv.add L 1 5 = false from f5, show Inv.add L 1 6 = false from f6]; exact H)⟩
          · show Sx.StepAt _ _ _ _ _ _ _ 2
            intro L A w up hun hd F H
            have f5 : L 5 = false := up 5 2 rfl hun
            have f6 : L 6 = false := up 6 2 rfl hun
            rw [f5, f6] at H
            have F := Sx.Fr.to F (kv' := [(17, .agg #[.int .u64 ((Wd.hi A').toNat), .int .u64 ((Wd.lo A').toNat), .int .u64 ((Wd.hi C').toNat), .int .u64 ((Wd.lo C').toNat)]), (18, .agg #[.int .u64 ((Wd.hi A').toNat), .int .u64 ((Wd.lo A').toNat), .int .u64 ((Wd.hi C').toNat), .int .u64 ((Wd.lo C').toNat)])]) ⟨rfl, rfl, trivial⟩
            refine Sx.step_on rfl (Sx.d_call (vs := [.agg #[.int .u64 ((Wd.hi A').toNat), .int .u64 ((Wd.lo A').toNat), .int .u64 ((Wd.hi C').toNat), .int .u64 ((Wd.lo C').toNat)], .agg #[.int .u64 ((Wd.hi A').toNat), .int .u64 ((Wd.lo A').toNat), .int .u64 ((Wd.hi C').toNat), .int .u64 ((Wd.lo C').toNat)]]) (v := .agg #[.int .u64 ((Wd.hi (A' * A')).toNat), .int .u64 ((Wd.lo (A' * A')).toNat), .int .u64 ((Wd.hi (A' * C' + C')).toNat), .int .u64 ((Wd.lo (A' * C' + C')).toNat)]) if_23 F H rfl rfl (athen_c A' C' A' C' _)) ?_
            rintro xv w' ⟨hx, H⟩
            exact ⟨(fun cv hc => hx.trans (Option.some.inj (Option.some.inj hc))), (by show Sx.Own _ _ _ _; rw [show Inv.add L 2 5 = false from f5, show Inv.add L 2 6 = false from f6]; exact H)⟩
          · show Sx.StepAt _ _ _ _ _ _ _ 3
            intro L A w up hun hd F H
            have f4 : L 4 = false := up 4 3 rfl hun
            have f5 : L 5 = false := up 5 4 rfl f4
            have f6 : L 6 = false := up 6 3 rfl hun
            rw [f5, f6] at H
            have F := Sx.Fr.to F (kv' := [(3, .pointer (some ⟨g2, 0, none⟩))]) ⟨rfl, trivial⟩
            refine Sx.step_on rfl (Sx.d_load (i := 2) (xs := [.int .u64 ((Wd.hi N').toNat), .int .u64 ((Wd.lo N').toNat)]) rw_24 F H rfl rfl rfl rfl rfl) ?_
            rintro xv w' ⟨hx, rfl⟩
            exact ⟨(fun cv hc => hx.trans (Option.some.inj (Option.some.inj hc))), (by show Sx.Own _ _ _ _; rw [show Inv.add L 3 5 = false from f5, show Inv.add L 3 6 = false from f6]; exact H)⟩
          · show Sx.StepAt _ _ _ _ _ _ _ 4
            intro L A w up hun hd F H
            have f5 : L 5 = false := up 5 4 rfl hun
            have f6 : L 6 = false := up 6 4 rfl hun
            rw [f5, f6] at H
            have F := Sx.Fr.to F (kv' := [(20, .agg #[.int .u64 ((Wd.hi N').toNat), .int .u64 ((Wd.lo N').toNat)])]) ⟨rfl, trivial⟩
            refine Sx.step_on rfl (Sx.d_call (vs := [.agg #[.int .u64 ((Wd.hi N').toNat), .int .u64 ((Wd.lo N').toNat)], .int .i64 1]) (v := .agg #[.int .u64 ((Wd.hi (N' >>> 1)).toNat), .int .u64 ((Wd.lo (N' >>> 1)).toNat)]) if_64 F H rfl rfl (Calls.val (wright_c N' 1 (by omega) _) rfl (by kernel_rfl))) ?_
            rintro xv w' ⟨hx, H⟩
            exact ⟨(fun cv hc => hx.trans (Option.some.inj (Option.some.inj hc))), (by show Sx.Own _ _ _ _; rw [show Inv.add L 4 5 = false from f5, show Inv.add L 4 6 = false from f6]; exact H)⟩
          · show Sx.StepAt _ _ _ _ _ _ _ 5
            intro L A w up hun hd F H
            have f5 : L 5 = false := hun
            have f6 : L 6 = false := up 6 5 rfl hun
            rw [f5, f6] at H
            have F := Sx.Fr.to F (kv' := [(2, .pointer (some ⟨g1, 0, none⟩)), (19, .agg #[.int .u64 ((Wd.hi (A' * A')).toNat), .int .u64 ((Wd.lo (A' * A')).toNat), .int .u64 ((Wd.hi (A' * C' + C')).toNat), .int .u64 ((Wd.lo (A' * C' + C')).toNat)])]) ⟨rfl, rfl, trivial⟩
            refine Sx.step_on rfl (Sx.d_store (i := 3) (xs := [.int .u64 ((Wd.hi (A' * A')).toNat), .int .u64 ((Wd.lo (A' * A')).toNat), .int .u64 ((Wd.hi (A' * C' + C')).toNat), .int .u64 ((Wd.lo (A' * C' + C')).toNat)]) (us := [.int .u64 ((Wd.hi (A' * A')).toNat), .int .u64 ((Wd.lo (A' * A')).toNat), .int .u64 ((Wd.hi (A' * C' + C')).toNat), .int .u64 ((Wd.lo (A' * C' + C')).toNat)]) sz_26 F H rfl rfl rfl rfl rfl rfl rfl (Nat.le_of_ble_eq_true rfl) rfl) ?_
            intro xv w' H
            exact ⟨(fun cv hc => by have h := Option.some.inj hc; cases h), (by show Sx.Own _ _ _ _; rw [show Inv.add L 5 6 = false from f6]; exact H)⟩
          · show Sx.StepAt _ _ _ _ _ _ _ 6
            intro L A w up hun hd F H
            have t5 : L 5 = true := hd 5 rfl
            have f6 : L 6 = false := hun
            rw [t5, f6] at H
            have F := Sx.Fr.to F (kv' := [(3, .pointer (some ⟨g2, 0, none⟩)), (21, .agg #[.int .u64 ((Wd.hi (N' >>> 1)).toNat), .int .u64 ((Wd.lo (N' >>> 1)).toNat)])]) ⟨rfl, rfl, trivial⟩
            refine Sx.step_on rfl (Sx.d_store (i := 2) (xs := [.int .u64 ((Wd.hi (N' >>> 1)).toNat), .int .u64 ((Wd.lo (N' >>> 1)).toNat)]) (us := [.int .u64 ((Wd.hi (N' >>> 1)).toNat), .int .u64 ((Wd.lo (N' >>> 1)).toNat)]) sz_24 F H rfl rfl rfl rfl rfl rfl rfl (Nat.le_of_ble_eq_true rfl) rfl) ?_
            intro xv w' H
            exact ⟨(fun cv hc => by have h := Option.some.inj hc; cases h), (by show Sx.Own _ _ _ _; rw [show Inv.add L 6 5 = true from t5]; exact H)⟩
        · intro L A w hL F H
          have t5 : L 5 = true := hL 5 rfl
          have t6 : L 6 = true := hL 6 rfl
          rw [t5, t6] at H
          have F := Sx.Fr.to F (kv' := [(2, .pointer (some ⟨g1, 0, none⟩)), (3, .pointer (some ⟨g2, 0, none⟩)), (4, .pointer (some ⟨g3, 0, none⟩)), (5, .pointer (some ⟨ob, 0, none⟩)), (7, .agg #[.int .u64 ((Wd.hi N').toNat), .int .u64 ((Wd.lo N').toNat)]), (8, .agg #[.int .u64 ((Wd.hi 0#128).toNat), .int .u64 ((Wd.lo 0#128).toNat)]), (9, .bool false), (11, .agg #[.int .u64 ((Wd.hi N').toNat), .int .u64 ((Wd.lo N').toNat)]), (12, .int .i64 (Wd.bit N' 0)), (13, .bool true), (14, .agg #[.int .u64 ((Wd.hi OA).toNat), .int .u64 ((Wd.lo OA).toNat), .int .u64 ((Wd.hi OC).toNat), .int .u64 ((Wd.lo OC).toNat)]), (15, .agg #[.int .u64 ((Wd.hi A').toNat), .int .u64 ((Wd.lo A').toNat), .int .u64 ((Wd.hi C').toNat), .int .u64 ((Wd.lo C').toNat)]), (16, .agg #[.int .u64 ((Wd.hi (A' * OA)).toNat), .int .u64 ((Wd.lo (A' * OA)).toNat), .int .u64 ((Wd.hi (A' * OC + C')).toNat), .int .u64 ((Wd.lo (A' * OC + C')).toNat)])]) ⟨rfl, rfl, rfl, rfl, rfl, rfl, rfl, rfl, rfl, rfl, rfl, rfl, rfl, trivial⟩
          refine hK14 _ _ ?_
          refine wp_goto ?_
          dsimp only [Exit.then, Exit.inBlock, Exit.jump]
          refine ⟨rfl, (N' >>> 1).toNat, hlt, ob, A' * A', A' * C' + C', N' >>> 1, A' * OA, A' * OC + C', rfl, ?_, F.to ⟨rfl, rfl, rfl, rfl, trivial⟩, H⟩
          have hr := Af.round ⟨OA, OC⟩ ⟨A', C'⟩ N'; rw [hJ] at hr; unfold Af.next at hr; rw [ho] at hr; exact hr
  · skip
    refine Sx.seq (fun Kl hKl => ?_)
    refine Sx.plain ?_
    refine Sx.sw F (Sx.d_call (vs := []) (v := .agg #[.int .u64 ((Wd.hi 1#128).toNat), .int .u64 ((Wd.lo 1#128).toNat), .int .u64 ((Wd.hi 0#128).toNat), .int .u64 ((Wd.lo 0#128).toNat)]) if_26 F H rfl rfl (aone_c _)) (Sx.wanted_none rfl _) rfl (by decide) (fun A w F H => ?_)
    refine Sx.sb F (Sx.d_alloc H rfl [.int .u64 ((Wd.hi 0#128).toNat), .int .u64 ((Wd.lo 0#128).toNat), .int .u64 ((Wd.hi 0#128).toNat), .int .u64 ((Wd.lo 0#128).toNat)] zero_26) (Sx.wanted_none rfl _) rfl (by decide) (fun g4 A w F H => ?_)
    refine Sx.ss F (Sx.d_store (i := 0) (xs := [.int .u64 ((Wd.hi 1#128).toNat), .int .u64 ((Wd.lo 1#128).toNat), .int .u64 ((Wd.hi 0#128).toNat), .int .u64 ((Wd.lo 0#128).toNat)]) (us := [.int .u64 ((Wd.hi 1#128).toNat), .int .u64 ((Wd.lo 1#128).toNat), .int .u64 ((Wd.hi 0#128).toNat), .int .u64 ((Wd.lo 0#128).toNat)]) sz_26 F H rfl rfl rfl rfl rfl rfl rfl (Nat.le_of_ble_eq_true rfl) rfl) (Sx.wanted_none rfl _) rfl (fun A w F (H : Sx.Own w0 _ [(true, g4, [.int .u64 ((Wd.hi 1#128).toNat), .int .u64 ((Wd.lo 1#128).toNat), .int .u64 ((Wd.hi 0#128).toNat), .int .u64 ((Wd.lo 0#128).toNat)]), (true, g3, [.int .u64 ((Wd.hi 0#128).toNat), .int .u64 ((Wd.lo 0#128).toNat), .int .u64 ((Wd.hi 0#128).toNat), .int .u64 ((Wd.lo 0#128).toNat)]), (true, g2, [.int .u64 ((Wd.hi n).toNat), .int .u64 ((Wd.lo n).toNat)]), (true, g1, [.int .u64 ((Wd.hi ma).toNat), .int .u64 ((Wd.lo ma).toNat), .int .u64 ((Wd.hi mc).toNat), .int .u64 ((Wd.lo mc).toNat)])] []) => ?_)
    refine Sx.nil ?_
    refine hKl _ _ ?_
    refine Sx.seq (fun Km hKm => ?_)
    refine wp_label ?_
    refine hKm _ _ ?_
    exact first _ _ _ ⟨g4, ma, mc, n, 1#128, 0#128, rfl, Af.one_thn _, F.to ⟨rfl, rfl, rfl, rfl, trivial⟩, H⟩
end Go.Proofs.Ytpbdffmgendboaa
