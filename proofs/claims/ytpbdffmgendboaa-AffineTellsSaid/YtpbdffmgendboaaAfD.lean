/- affine.Inverse walked. -/
import Derived.Test.YtpbdffmgendboaaAfB
namespace Go.Proofs.Ytpbdffmgendboaa
open Go Go.RowKit
set_option maxRecDepth 100000 in
theorem ainv_no (qa qc : BitVec 128) (hn : Af.odd qa = false) (w0 : World) : Calls Try.prog 18 #[.agg #[.int .u64 ((Wd.hi qa).toNat), .int .u64 ((Wd.lo qa).toNat), .int .u64 ((Wd.hi qc).toNat), .int .u64 ((Wd.lo qc).toNat)]] w0 fun e w' => e = .returned (.tuple #[.agg #[.int .u64 ((Wd.hi 0#128).toNat), .int .u64 ((Wd.lo 0#128).toNat), .int .u64 ((Wd.hi 0#128).toNat), .int .u64 ((Wd.lo 0#128).toNat)], .int .i64 1]) ∧ Below w0.heap.size w0 w' := by
  refine Sx.enter (args := [.agg #[.int .u64 ((Wd.hi qa).toNat), .int .u64 ((Wd.lo qa).toNat), .int .u64 ((Wd.hi qc).toNat), .int .u64 ((Wd.lo qc).toNat)]]) Try.func18 rfl Try.ntmps18 (Nat.le_of_ble_eq_true rfl) (fun A F => ?_)
  have H := Sx.Own.start w0
  refine Sx.seq (fun K1 hK1 => ?_)
  refine Sx.plain ?_
  refine Sx.sb F (Sx.d_box F H rfl rfl [.int .u64 ((Wd.hi qa).toNat), .int .u64 ((Wd.lo qa).toNat), .int .u64 ((Wd.hi qc).toNat), .int .u64 ((Wd.lo qc).toNat)] rfl) (Sx.wanted_none rfl _) rfl (by decide) (fun g1 A w F H => ?_)
  refine Sx.sb F (Sx.d_alloc H rfl [.int .u64 ((Wd.hi 0#128).toNat), .int .u64 ((Wd.lo 0#128).toNat), .int .u64 ((Wd.hi 0#128).toNat), .int .u64 ((Wd.lo 0#128).toNat)] zero_26) (Sx.wanted_none rfl _) rfl (by decide) (fun g2 A w F H => ?_)
  refine Sx.sv F (Sx.d_move F (Or.inr rfl) rfl) (Sx.wanted_none rfl _) rfl (by decide) (fun A F => ?_)
  refine Sx.nil ?_
  refine hK1 _ _ ?_
  refine Sx.seq (fun K2 hK2 => ?_)
  refine Sx.plain ?_
  refine Sx.sv F (Sx.d_faddr (v := .pointer (some ⟨g1, 0, none⟩)) F rfl rfl (fa_26_0 _ 0 _)) (Sx.wanted_none rfl _) rfl (by decide) (fun A F => ?_)
  refine Sx.sv F (Sx.d_load (i := 1) (xs := [.int .u64 ((Wd.hi qa).toNat), .int .u64 ((Wd.lo qa).toNat)]) rw_24 F H rfl rfl rfl rfl rfl) (Sx.wanted_none rfl _) rfl (by decide) (fun A F => ?_)
  refine Sx.sw F (Sx.d_call (vs := [.agg #[.int .u64 ((Wd.hi qa).toNat), .int .u64 ((Wd.lo qa).toNat)]]) (v := .tuple #[.agg #[.int .u64 ((Wd.hi 0#128).toNat), .int .u64 ((Wd.lo 0#128).toNat)], .int .i64 1]) if_16 F H rfl rfl (Calls.val (aodd_no qa hn _) rfl (by kernel_rfl))) (Sx.wanted_none rfl _) rfl (by decide) (fun A w F H => ?_)
  refine Sx.sv F (Sx.d_move F (Or.inl rfl) rfl) (Sx.wanted_none rfl _) rfl (by decide) (fun A F => ?_)
  refine Sx.sv F (Sx.d_extract (v := .agg #[.int .u64 ((Wd.hi 0#128).toNat), .int .u64 ((Wd.lo 0#128).toNat)]) F rfl rfl rfl) (Sx.wanted_none rfl _) rfl (by decide) (fun A F => ?_)
  refine Sx.sv F (Sx.d_extract (v := .int .i64 1) F rfl rfl rfl) (Sx.wanted_none rfl _) rfl (by decide) (fun A F => ?_)
  refine Sx.sb F (Sx.d_alloc H rfl [.int .u64 ((Wd.hi 0#128).toNat), .int .u64 ((Wd.lo 0#128).toNat)] zero_24) (Sx.wanted_none rfl _) rfl (by decide) (fun g3 A w F H => ?_)
  refine Sx.ss F (Sx.d_store (i := 0) (xs := [.int .u64 ((Wd.hi 0#128).toNat), .int .u64 ((Wd.lo 0#128).toNat)]) (us := [.int .u64 ((Wd.hi 0#128).toNat), .int .u64 ((Wd.lo 0#128).toNat)]) sz_24 F H rfl rfl rfl rfl rfl rfl rfl (Nat.le_of_ble_eq_true rfl) rfl) (Sx.wanted_none rfl _) rfl (fun A w F (H : Sx.Own w0 _ [(true, g3, [.int .u64 ((Wd.hi 0#128).toNat), .int .u64 ((Wd.lo 0#128).toNat)]), (true, g2, [.int .u64 ((Wd.hi 0#128).toNat), .int .u64 ((Wd.lo 0#128).toNat), .int .u64 ((Wd.hi 0#128).toNat), .int .u64 ((Wd.lo 0#128).toNat)]), (true, g1, [.int .u64 ((Wd.hi qa).toNat), .int .u64 ((Wd.lo qa).toNat), .int .u64 ((Wd.hi qc).toNat), .int .u64 ((Wd.lo qc).toNat)])] []) => ?_)
  refine Sx.sv F (Sx.d_move F (Or.inr rfl) rfl) (Sx.wanted_none rfl _) rfl (by decide) (fun A F => ?_)
  refine Sx.nil ?_
  refine hK2 _ _ ?_
  refine Sx.seq (fun K3 hK3 => ?_)
  refine Sx.seq (fun K4 hK4 => ?_)
  refine Sx.plain ?_
  refine Sx.sv F (Sx.d_move F (Or.inl rfl) rfl) (Sx.wanted_none rfl _) rfl (by decide) (fun A F => ?_)
  refine Sx.sv F (Sx.d_bin (v := .bool true) F rfl rfl rfl (Sx.i_ne (by decide))) (Sx.wanted_none rfl _) rfl (by decide) (fun A F => ?_)
  refine Sx.nil ?_
  refine hK4 _ _ ?_
  refine Sx.condT F rfl ?_
  refine Sx.seq (fun K5 hK5 => ?_)
  refine Sx.plain ?_
  refine Sx.sv F (Sx.d_build (qs := #[]) (v := .agg #[.int .u64 ((Wd.hi 0#128).toNat), .int .u64 ((Wd.lo 0#128).toNat), .int .u64 ((Wd.hi 0#128).toNat), .int .u64 ((Wd.lo 0#128).toNat)]) F rfl rfl (by kernel_rfl)) (Sx.wanted_none rfl _) rfl (by decide) (fun A F => ?_)
  refine Sx.sv F (Sx.d_move F (Or.inl rfl) rfl) (Sx.wanted_none rfl _) rfl (by decide) (fun A F => ?_)
  refine Sx.ss F (Sx.d_store (i := 1) (xs := [.int .u64 ((Wd.hi 0#128).toNat), .int .u64 ((Wd.lo 0#128).toNat), .int .u64 ((Wd.hi 0#128).toNat), .int .u64 ((Wd.lo 0#128).toNat)]) (us := [.int .u64 ((Wd.hi 0#128).toNat), .int .u64 ((Wd.lo 0#128).toNat), .int .u64 ((Wd.hi 0#128).toNat), .int .u64 ((Wd.lo 0#128).toNat)]) sz_26 F H rfl rfl rfl rfl rfl rfl rfl (Nat.le_of_ble_eq_true rfl) rfl) (Sx.wanted_none rfl _) rfl (fun A w F (H : Sx.Own w0 _ [(true, g3, [.int .u64 ((Wd.hi 0#128).toNat), .int .u64 ((Wd.lo 0#128).toNat)]), (true, g2, [.int .u64 ((Wd.hi 0#128).toNat), .int .u64 ((Wd.lo 0#128).toNat), .int .u64 ((Wd.hi 0#128).toNat), .int .u64 ((Wd.lo 0#128).toNat)]), (true, g1, [.int .u64 ((Wd.hi qa).toNat), .int .u64 ((Wd.lo qa).toNat), .int .u64 ((Wd.hi qc).toNat), .int .u64 ((Wd.lo qc).toNat)])] []) => ?_)
  refine Sx.sv F (Sx.d_move F (Or.inr rfl) rfl) (Sx.wanted_none rfl _) rfl (by decide) (fun A F => ?_)
  refine Sx.nil ?_
  refine hK5 _ _ ?_
  refine wp_ret ?_
  try dsimp only [Exit.then, Exit.inBlock, Exit.jump]
  refine Sx.ret2 F Try.results18 (Sx.res_row (i := 1) (xs := [.int .u64 ((Wd.hi 0#128).toNat), .int .u64 ((Wd.lo 0#128).toNat), .int .u64 ((Wd.hi 0#128).toNat), .int .u64 ((Wd.lo 0#128).toNat)]) rw_26 F H rfl rfl rfl rfl) (Sx.res_tmp (v := .int .i64 1) F rfl) ⟨?_, H.below⟩
  rfl
set_option maxRecDepth 100000 in
theorem ainv_ok (qa qc : BitVec 128) (hn : Af.odd qa = true) (w0 : World) : Calls Try.prog 18 #[.agg #[.int .u64 ((Wd.hi qa).toNat), .int .u64 ((Wd.lo qa).toNat), .int .u64 ((Wd.hi qc).toNat), .int .u64 ((Wd.lo qc).toNat)]] w0 fun e w' => e = .returned (.tuple #[.agg #[.int .u64 ((Wd.hi (Af.inv qa)).toNat), .int .u64 ((Wd.lo (Af.inv qa)).toNat), .int .u64 ((Wd.hi (Af.inv qa * (0#128 - qc))).toNat), .int .u64 ((Wd.lo (Af.inv qa * (0#128 - qc))).toNat)], .int .i64 0]) ∧ Below w0.heap.size w0 w' := by
  refine Sx.enter (args := [.agg #[.int .u64 ((Wd.hi qa).toNat), .int .u64 ((Wd.lo qa).toNat), .int .u64 ((Wd.hi qc).toNat), .int .u64 ((Wd.lo qc).toNat)]]) Try.func18 rfl Try.ntmps18 (Nat.le_of_ble_eq_true rfl) (fun A F => ?_)
  have H := Sx.Own.start w0
  refine Sx.seq (fun K1 hK1 => ?_)
  refine Sx.plain ?_
  refine Sx.sb F (Sx.d_box F H rfl rfl [.int .u64 ((Wd.hi qa).toNat), .int .u64 ((Wd.lo qa).toNat), .int .u64 ((Wd.hi qc).toNat), .int .u64 ((Wd.lo qc).toNat)] rfl) (Sx.wanted_none rfl _) rfl (by decide) (fun g1 A w F H => ?_)
  refine Sx.sb F (Sx.d_alloc H rfl [.int .u64 ((Wd.hi 0#128).toNat), .int .u64 ((Wd.lo 0#128).toNat), .int .u64 ((Wd.hi 0#128).toNat), .int .u64 ((Wd.lo 0#128).toNat)] zero_26) (Sx.wanted_none rfl _) rfl (by decide) (fun g2 A w F H => ?_)
  refine Sx.sv F (Sx.d_move F (Or.inr rfl) rfl) (Sx.wanted_none rfl _) rfl (by decide) (fun A F => ?_)
  refine Sx.nil ?_
  refine hK1 _ _ ?_
  refine Sx.seq (fun K2 hK2 => ?_)
  refine Sx.plain ?_
  refine Sx.sv F (Sx.d_faddr (v := .pointer (some ⟨g1, 0, none⟩)) F rfl rfl (fa_26_0 _ 0 _)) (Sx.wanted_none rfl _) rfl (by decide) (fun A F => ?_)
  refine Sx.sv F (Sx.d_load (i := 1) (xs := [.int .u64 ((Wd.hi qa).toNat), .int .u64 ((Wd.lo qa).toNat)]) rw_24 F H rfl rfl rfl rfl rfl) (Sx.wanted_none rfl _) rfl (by decide) (fun A F => ?_)
  refine Sx.sw F (Sx.d_call (vs := [.agg #[.int .u64 ((Wd.hi qa).toNat), .int .u64 ((Wd.lo qa).toNat)]]) (v := .tuple #[.agg #[.int .u64 ((Wd.hi (Af.inv qa)).toNat), .int .u64 ((Wd.lo (Af.inv qa)).toNat)], .int .i64 0]) if_16 F H rfl rfl (aodd_ok qa hn _)) (Sx.wanted_none rfl _) rfl (by decide) (fun A w F H => ?_)
  refine Sx.sv F (Sx.d_move F (Or.inl rfl) rfl) (Sx.wanted_none rfl _) rfl (by decide) (fun A F => ?_)
  refine Sx.sv F (Sx.d_extract (v := .agg #[.int .u64 ((Wd.hi (Af.inv qa)).toNat), .int .u64 ((Wd.lo (Af.inv qa)).toNat)]) F rfl rfl rfl) (Sx.wanted_none rfl _) rfl (by decide) (fun A F => ?_)
  refine Sx.sv F (Sx.d_extract (v := .int .i64 0) F rfl rfl rfl) (Sx.wanted_none rfl _) rfl (by decide) (fun A F => ?_)
  refine Sx.sb F (Sx.d_alloc H rfl [.int .u64 ((Wd.hi 0#128).toNat), .int .u64 ((Wd.lo 0#128).toNat)] zero_24) (Sx.wanted_none rfl _) rfl (by decide) (fun g3 A w F H => ?_)
  refine Sx.ss F (Sx.d_store (i := 0) (xs := [.int .u64 ((Wd.hi (Af.inv qa)).toNat), .int .u64 ((Wd.lo (Af.inv qa)).toNat)]) (us := [.int .u64 ((Wd.hi (Af.inv qa)).toNat), .int .u64 ((Wd.lo (Af.inv qa)).toNat)]) sz_24 F H rfl rfl rfl rfl rfl rfl rfl (Nat.le_of_ble_eq_true rfl) rfl) (Sx.wanted_none rfl _) rfl (fun A w F (H : Sx.Own w0 _ [(true, g3, [.int .u64 ((Wd.hi (Af.inv qa)).toNat), .int .u64 ((Wd.lo (Af.inv qa)).toNat)]), (true, g2, [.int .u64 ((Wd.hi 0#128).toNat), .int .u64 ((Wd.lo 0#128).toNat), .int .u64 ((Wd.hi 0#128).toNat), .int .u64 ((Wd.lo 0#128).toNat)]), (true, g1, [.int .u64 ((Wd.hi qa).toNat), .int .u64 ((Wd.lo qa).toNat), .int .u64 ((Wd.hi qc).toNat), .int .u64 ((Wd.lo qc).toNat)])] []) => ?_)
  refine Sx.sv F (Sx.d_move F (Or.inr rfl) rfl) (Sx.wanted_none rfl _) rfl (by decide) (fun A F => ?_)
  refine Sx.nil ?_
  refine hK2 _ _ ?_
  refine Sx.seq (fun K3 hK3 => ?_)
  refine Sx.seq (fun K4 hK4 => ?_)
  refine Sx.plain ?_
  refine Sx.sv F (Sx.d_move F (Or.inl rfl) rfl) (Sx.wanted_none rfl _) rfl (by decide) (fun A F => ?_)
  refine Sx.sv F (Sx.d_bin (v := .bool false) F rfl rfl rfl (Sx.i_ne (by decide))) (Sx.wanted_none rfl _) rfl (by decide) (fun A F => ?_)
  refine Sx.nil ?_
  refine hK4 _ _ ?_
  refine Sx.condF F rfl ?_
  refine wp_skip ?_
  refine hK3 _ _ ?_
  refine Sx.seq (fun K5 hK5 => ?_)
  have F := Sx.Fr.to F (kv' := [(0, .agg #[.int .u64 ((Wd.hi qa).toNat), .int .u64 ((Wd.lo qa).toNat), .int .u64 ((Wd.hi qc).toNat), .int .u64 ((Wd.lo qc).toNat)]), (1, .pointer (some ⟨g1, 0, none⟩)), (2, .pointer (some ⟨g2, 0, none⟩)), (7, .pointer (some ⟨g1, 0, none⟩)), (8, .agg #[.int .u64 ((Wd.hi qa).toNat), .int .u64 ((Wd.lo qa).toNat)]), (9, .tuple #[.agg #[.int .u64 ((Wd.hi (Af.inv qa)).toNat), .int .u64 ((Wd.lo (Af.inv qa)).toNat)], .int .i64 0]), (6, .tuple #[.agg #[.int .u64 ((Wd.hi (Af.inv qa)).toNat), .int .u64 ((Wd.lo (Af.inv qa)).toNat)], .int .i64 0]), (10, .agg #[.int .u64 ((Wd.hi (Af.inv qa)).toNat), .int .u64 ((Wd.lo (Af.inv qa)).toNat)]), (11, .int .i64 0), (4, .pointer (some ⟨g3, 0, none⟩)), (5, .int .i64 0), (12, .int .i64 0), (13, .bool false)]) ⟨rfl, rfl, rfl, rfl, rfl, rfl, rfl, rfl, rfl, rfl, rfl, rfl, rfl, trivial⟩
  refine Sx.drawn F (by kernel_rfl) (by kernel_rfl) (by kernel_rfl) [some (.agg #[.int .u64 ((Wd.hi (Af.inv qa)).toNat), .int .u64 ((Wd.lo (Af.inv qa)).toNat)]), some (.agg #[.int .u64 ((Wd.hi (Af.inv qa)).toNat), .int .u64 ((Wd.lo (Af.inv qa)).toNat)]), some (.pointer (some ⟨g1, 2, none⟩)), some (.agg #[.int .u64 ((Wd.hi qc).toNat), .int .u64 ((Wd.lo qc).toNat)]), some (.agg #[.int .u64 ((Wd.hi (0#128 - qc)).toNat), .int .u64 ((Wd.lo (0#128 - qc)).toNat)]), some (.agg #[.int .u64 ((Wd.hi ((Af.inv qa) * (0#128 - qc))).toNat), .int .u64 ((Wd.lo ((Af.inv qa) * (0#128 - qc))).toNat)]), some (.agg #[.int .u64 ((Wd.hi (Af.inv qa)).toNat), .int .u64 ((Wd.lo (Af.inv qa)).toNat), .int .u64 ((Wd.hi ((Af.inv qa) * (0#128 - qc))).toNat), .int .u64 ((Wd.lo ((Af.inv qa) * (0#128 - qc))).toNat)]), none, some (.int .i64 0)] (fun L A w => Sx.Own w0 w [(true, g3, [.int .u64 ((Wd.hi (Af.inv qa)).toNat), .int .u64 ((Wd.lo (Af.inv qa)).toNat)]), (true, g2, (cond (L 7) [.int .u64 ((Wd.hi (Af.inv qa)).toNat), .int .u64 ((Wd.lo (Af.inv qa)).toNat), .int .u64 ((Wd.hi ((Af.inv qa) * (0#128 - qc))).toNat), .int .u64 ((Wd.lo ((Af.inv qa) * (0#128 - qc))).toNat)] [.int .u64 ((Wd.hi 0#128).toNat), .int .u64 ((Wd.lo 0#128).toNat), .int .u64 ((Wd.hi 0#128).toNat), .int .u64 ((Wd.lo 0#128).toNat)])), (true, g1, [.int .u64 ((Wd.hi qa).toNat), .int .u64 ((Wd.lo qa).toNat), .int .u64 ((Wd.hi qc).toNat), .int .u64 ((Wd.lo qc).toNat)])] []) H.drew ?_ ?_
  · refine ⟨?_, ?_, ?_, ?_, ?_, ?_, ?_, ?_, ?_, trivial⟩
    · show Sx.StepAt _ _ _ _ _ _ _ 0
      intro L A w up hun hd F H
      have f7 : L 7 = false := up 7 0 rfl hun
      rw [f7] at H
      have F := Sx.Fr.to F (kv' := [(4, .pointer (some ⟨g3, 0, none⟩))]) ⟨rfl, trivial⟩
      refine Sx.step_on rfl (Sx.d_load (i := 0) (xs := [.int .u64 ((Wd.hi (Af.inv qa)).toNat), .int .u64 ((Wd.lo (Af.inv qa)).toNat)]) rw_24 F H rfl rfl rfl rfl rfl) ?_
      rintro xv w' ⟨hx, rfl⟩
      exact ⟨(fun cv hc => hx.trans (Option.some.inj (Option.some.inj hc))), (by show Sx.Own _ _ _ _; rw [show Inv.add L 0 7 = false from f7]; exact H)⟩
    · show Sx.StepAt _ _ _ _ _ _ _ 1
      intro L A w up hun hd F H
      have f7 : L 7 = false := up 7 1 rfl hun
      rw [f7] at H
      have F := Sx.Fr.to F (kv' := [(4, .pointer (some ⟨g3, 0, none⟩))]) ⟨rfl, trivial⟩
      refine Sx.step_on rfl (Sx.d_load (i := 0) (xs := [.int .u64 ((Wd.hi (Af.inv qa)).toNat), .int .u64 ((Wd.lo (Af.inv qa)).toNat)]) rw_24 F H rfl rfl rfl rfl rfl) ?_
      rintro xv w' ⟨hx, rfl⟩
      exact ⟨(fun cv hc => hx.trans (Option.some.inj (Option.some.inj hc))), (by show Sx.Own _ _ _ _; rw [show Inv.add L 1 7 = false from f7]; exact H)⟩
    · show Sx.StepAt _ _ _ _ _ _ _ 2
      intro L A w up hun hd F H
      have f7 : L 7 = false := up 7 2 rfl hun
      rw [f7] at H
      have F := Sx.Fr.to F (kv' := [(1, .pointer (some ⟨g1, 0, none⟩))]) ⟨rfl, trivial⟩
      refine Sx.step_on rfl (Sx.d_faddr (v := .pointer (some ⟨g1, 2, none⟩)) F rfl rfl (fa_26_1 _ 0 _)) ?_
      rintro xv w' ⟨hx, rfl⟩
      exact ⟨(fun cv hc => hx.trans (Option.some.inj (Option.some.inj hc))), (by show Sx.Own _ _ _ _; rw [show Inv.add L 2 7 = false from f7]; exact H)⟩
    · show Sx.StepAt _ _ _ _ _ _ _ 3
      intro L A w up hun hd F H
      have f7 : L 7 = false := up 7 3 rfl hun
      rw [f7] at H
      have F := Sx.Fr.to F (kv' := [(18, .pointer (some ⟨g1, 2, none⟩))]) ⟨rfl, trivial⟩
      refine Sx.step_on rfl (Sx.d_load (i := 2) (xs := [.int .u64 ((Wd.hi qc).toNat), .int .u64 ((Wd.lo qc).toNat)]) rw_24 F H rfl rfl rfl rfl rfl) ?_
      rintro xv w' ⟨hx, rfl⟩
      exact ⟨(fun cv hc => hx.trans (Option.some.inj (Option.some.inj hc))), (by show Sx.Own _ _ _ _; rw [show Inv.add L 3 7 = false from f7]; exact H)⟩
    · show Sx.StepAt _ _ _ _ _ _ _ 4
      intro L A w up hun hd F H
      have f7 : L 7 = false := up 7 4 rfl hun
      rw [f7] at H
      have F := Sx.Fr.to F (kv' := [(19, .agg #[.int .u64 ((Wd.hi qc).toNat), .int .u64 ((Wd.lo qc).toNat)])]) ⟨rfl, trivial⟩
      refine Sx.step_on rfl (Sx.d_call (vs := [.agg #[.int .u64 ((Wd.hi qc).toNat), .int .u64 ((Wd.lo qc).toNat)]]) (v := .agg #[.int .u64 ((Wd.hi (0#128 - qc)).toNat), .int .u64 ((Wd.lo (0#128 - qc)).toNat)]) if_62 F H rfl rfl (aneg_c qc _)) ?_
      rintro xv w' ⟨hx, H⟩
      exact ⟨(fun cv hc => hx.trans (Option.some.inj (Option.some.inj hc))), (by show Sx.Own _ _ _ _; rw [show Inv.add L 4 7 = false from f7]; exact H)⟩
    · show Sx.StepAt _ _ _ _ _ _ _ 5
      intro L A w up hun hd F H
      have f7 : L 7 = false := up 7 5 rfl hun
      rw [f7] at H
      have F := Sx.Fr.to F (kv' := [(17, .agg #[.int .u64 ((Wd.hi (Af.inv qa)).toNat), .int .u64 ((Wd.lo (Af.inv qa)).toNat)]), (20, .agg #[.int .u64 ((Wd.hi (0#128 - qc)).toNat), .int .u64 ((Wd.lo (0#128 - qc)).toNat)])]) ⟨rfl, rfl, trivial⟩
      refine Sx.step_on rfl (Sx.d_call (vs := [.agg #[.int .u64 ((Wd.hi (Af.inv qa)).toNat), .int .u64 ((Wd.lo (Af.inv qa)).toNat)], .agg #[.int .u64 ((Wd.hi (0#128 - qc)).toNat), .int .u64 ((Wd.lo (0#128 - qc)).toNat)]]) (v := .agg #[.int .u64 ((Wd.hi ((Af.inv qa) * (0#128 - qc))).toNat), .int .u64 ((Wd.lo ((Af.inv qa) * (0#128 - qc))).toNat)]) if_31 F H rfl rfl (wmul_c (Af.inv qa) (0#128 - qc) _)) ?_
      rintro xv w' ⟨hx, H⟩
      exact ⟨(fun cv hc => hx.trans (Option.some.inj (Option.some.inj hc))), (by show Sx.Own _ _ _ _; rw [show Inv.add L 5 7 = false from f7]; exact H)⟩
    · show Sx.StepAt _ _ _ _ _ _ _ 6
      intro L A w up hun hd F H
      have f7 : L 7 = false := up 7 6 rfl hun
      rw [f7] at H
      have F := Sx.Fr.to F (kv' := [(16, .agg #[.int .u64 ((Wd.hi (Af.inv qa)).toNat), .int .u64 ((Wd.lo (Af.inv qa)).toNat)]), (21, .agg #[.int .u64 ((Wd.hi ((Af.inv qa) * (0#128 - qc))).toNat), .int .u64 ((Wd.lo ((Af.inv qa) * (0#128 - qc))).toNat)])]) ⟨rfl, rfl, trivial⟩
      refine Sx.step_on rfl (Sx.d_build (qs := #[(0, .agg #[.int .u64 ((Wd.hi (Af.inv qa)).toNat), .int .u64 ((Wd.lo (Af.inv qa)).toNat)]), (1, .agg #[.int .u64 ((Wd.hi ((Af.inv qa) * (0#128 - qc))).toNat), .int .u64 ((Wd.lo ((Af.inv qa) * (0#128 - qc))).toNat)])]) (v := .agg #[.int .u64 ((Wd.hi (Af.inv qa)).toNat), .int .u64 ((Wd.lo (Af.inv qa)).toNat), .int .u64 ((Wd.hi ((Af.inv qa) * (0#128 - qc))).toNat), .int .u64 ((Wd.lo ((Af.inv qa) * (0#128 - qc))).toNat)]) F rfl rfl (by kernel_rfl)) ?_
      rintro xv w' ⟨hx, rfl⟩
      exact ⟨(fun cv hc => hx.trans (Option.some.inj (Option.some.inj hc))), (by show Sx.Own _ _ _ _; rw [show Inv.add L 6 7 = false from f7]; exact H)⟩
    · show Sx.StepAt _ _ _ _ _ _ _ 7
      intro L A w up hun hd F H
      have f7 : L 7 = false := hun
      rw [f7] at H
      have F := Sx.Fr.to F (kv' := [(2, .pointer (some ⟨g2, 0, none⟩)), (22, .agg #[.int .u64 ((Wd.hi (Af.inv qa)).toNat), .int .u64 ((Wd.lo (Af.inv qa)).toNat), .int .u64 ((Wd.hi ((Af.inv qa) * (0#128 - qc))).toNat), .int .u64 ((Wd.lo ((Af.inv qa) * (0#128 - qc))).toNat)])]) ⟨rfl, rfl, trivial⟩
      refine Sx.step_on rfl (Sx.d_store (i := 1) (xs := [.int .u64 ((Wd.hi (Af.inv qa)).toNat), .int .u64 ((Wd.lo (Af.inv qa)).toNat), .int .u64 ((Wd.hi ((Af.inv qa) * (0#128 - qc))).toNat), .int .u64 ((Wd.lo ((Af.inv qa) * (0#128 - qc))).toNat)]) (us := [.int .u64 ((Wd.hi (Af.inv qa)).toNat), .int .u64 ((Wd.lo (Af.inv qa)).toNat), .int .u64 ((Wd.hi ((Af.inv qa) * (0#128 - qc))).toNat), .int .u64 ((Wd.lo ((Af.inv qa) * (0#128 - qc))).toNat)]) sz_26 F H rfl rfl rfl rfl rfl rfl rfl (Nat.le_of_ble_eq_true rfl) rfl) ?_
      intro xv w' H
      exact ⟨(fun cv hc => by have h := Option.some.inj hc; cases h), H⟩
    · show Sx.StepAt _ _ _ _ _ _ _ 8
      intro L A w up hun hd F H
      have t7 : L 7 = true := hd 7 rfl
      rw [t7] at H
      have F := Sx.Fr.to F (kv' := []) trivial
      refine Sx.step_on rfl (Sx.d_move F (Or.inr rfl) rfl) ?_
      rintro xv w' ⟨hx, rfl⟩
      exact ⟨(fun cv hc => hx.trans (Option.some.inj (Option.some.inj hc))), (by show Sx.Own _ _ _ _; rw [show Inv.add L 8 7 = true from t7]; exact H)⟩
  · intro L A w hL F H
    have t7 : L 7 = true := hL 7 rfl
    rw [t7] at H
    have F := Sx.Fr.to F (kv' := [(0, .agg #[.int .u64 ((Wd.hi qa).toNat), .int .u64 ((Wd.lo qa).toNat), .int .u64 ((Wd.hi qc).toNat), .int .u64 ((Wd.lo qc).toNat)]), (1, .pointer (some ⟨g1, 0, none⟩)), (2, .pointer (some ⟨g2, 0, none⟩)), (7, .pointer (some ⟨g1, 0, none⟩)), (8, .agg #[.int .u64 ((Wd.hi qa).toNat), .int .u64 ((Wd.lo qa).toNat)]), (9, .tuple #[.agg #[.int .u64 ((Wd.hi (Af.inv qa)).toNat), .int .u64 ((Wd.lo (Af.inv qa)).toNat)], .int .i64 0]), (6, .tuple #[.agg #[.int .u64 ((Wd.hi (Af.inv qa)).toNat), .int .u64 ((Wd.lo (Af.inv qa)).toNat)], .int .i64 0]), (10, .agg #[.int .u64 ((Wd.hi (Af.inv qa)).toNat), .int .u64 ((Wd.lo (Af.inv qa)).toNat)]), (11, .int .i64 0), (4, .pointer (some ⟨g3, 0, none⟩)), (5, .int .i64 0), (12, .int .i64 0), (13, .bool false), (3, .int .i64 0)]) ⟨rfl, rfl, rfl, rfl, rfl, rfl, rfl, rfl, rfl, rfl, rfl, rfl, rfl, rfl, trivial⟩
    refine hK5 _ _ ?_
    refine wp_ret ?_
    try dsimp only [Exit.then, Exit.inBlock, Exit.jump]
    refine Sx.ret2 F Try.results18 (Sx.res_row (i := 1) (xs := [.int .u64 ((Wd.hi (Af.inv qa)).toNat), .int .u64 ((Wd.lo (Af.inv qa)).toNat), .int .u64 ((Wd.hi ((Af.inv qa) * (0#128 - qc))).toNat), .int .u64 ((Wd.lo ((Af.inv qa) * (0#128 - qc))).toNat)]) rw_26 F H rfl rfl rfl rfl) (Sx.res_tmp (v := .int .i64 0) F rfl) ⟨?_, H.below⟩
    rfl
end Go.Proofs.Ytpbdffmgendboaa
