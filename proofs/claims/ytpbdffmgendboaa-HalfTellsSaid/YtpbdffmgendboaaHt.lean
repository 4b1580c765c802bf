/- The reference of half: Block, Word, Far walked. -/
import Derived.Test.YtpbdffmgendboaaHtPlain
import Derived.Test.YtpbdffmgendboaaSum
namespace Go.Proofs.Ytpbdffmgendboaa
open Go Go.RowKit
set_option maxRecDepth 100000 in
theorem rblock12_c (dc : BitVec 128) (w0 : World) : Calls Try.prog 55 #[.agg #[.int .u64 ((Wd.hi dc).toNat), .int .u64 ((Wd.lo dc).toNat)]] w0 fun e w' => e = .returned (.agg #[.int .u32 ((Hf.low (Wd.lo dc)).toNat), .int .u32 ((Hf.top (Wd.lo dc)).toNat), .int .u32 ((Hf.low (Wd.hi dc)).toNat), .int .u32 ((Hf.top (Wd.hi dc)).toNat)]) ∧ Below w0.heap.size w0 w' := by
  refine Sx.enter (args := [.agg #[.int .u64 ((Wd.hi dc).toNat), .int .u64 ((Wd.lo dc).toNat)]]) Try.func55 rfl Try.ntmps55 (Nat.le_of_ble_eq_true rfl) (fun A F => ?_)
  have H := Sx.Own.start w0
  refine Sx.seq (fun K1 hK1 => ?_)
  refine Sx.plain ?_
  refine Sx.sb F (Sx.d_box F H rfl rfl [.int .u64 ((Wd.hi dc).toNat), .int .u64 ((Wd.lo dc).toNat)] rfl) (Sx.wanted_none rfl _) rfl (by decide) (fun g1 A w F H => ?_)
  refine Sx.sb F (Sx.d_alloc H rfl [.int .u32 0, .int .u32 0, .int .u32 0, .int .u32 0] zero_94) (Sx.wanted_none rfl _) rfl (by decide) (fun g2 A w F H => ?_)
  refine Sx.nil ?_
  refine hK1 _ _ ?_
  refine Sx.seq (fun K2 hK2 => ?_)
  refine Sx.plain ?_
  refine Sx.sv F (Sx.d_faddr (v := .pointer (some ⟨g1, 1, none⟩)) F rfl rfl (fa_31_1 _ 0 _)) (Sx.wanted_none rfl _) rfl (by decide) (fun A F => ?_)
  refine Sx.sv F (Sx.d_load1 (i := 1) (v := .int .u64 ((Wd.lo dc).toNat)) one_22 F H rfl rfl rfl rfl) (Sx.wanted_none rfl _) rfl (by decide) (fun A F => ?_)
  refine Sx.sv F (Sx.d_bin (v := .int .u64 (((Wd.lo dc) % 4294967296#64).toNat)) F rfl rfl rfl (Sx.i_rem64 (Wd.lo dc) 4294967296#64 (by decide))) (Sx.wanted_none rfl _) rfl (by decide) (fun A F => ?_)
  refine Sx.sv F (Sx.d_conv (v := .int .u32 ((BitVec.setWidth 32 ((Wd.lo dc) % 4294967296#64)).toNat)) F rfl rfl (Sx.c_u64_u32 ((Wd.lo dc) % 4294967296#64))) (Sx.wanted_none rfl _) rfl (by decide) (fun A F => ?_)
  refine Sx.sv F (Sx.d_faddr (v := .pointer (some ⟨g1, 1, none⟩)) F rfl rfl (fa_31_1 _ 0 _)) (Sx.wanted_none rfl _) rfl (by decide) (fun A F => ?_)
  refine Sx.sv F (Sx.d_load1 (i := 1) (v := .int .u64 ((Wd.lo dc).toNat)) one_22 F H rfl rfl rfl rfl) (Sx.wanted_none rfl _) rfl (by decide) (fun A F => ?_)
  refine Sx.sv F (Sx.d_bin (v := .int .u64 (((Wd.lo dc) / 4294967296#64).toNat)) F rfl rfl rfl (Sx.i_quo64 (Wd.lo dc) 4294967296#64 (by decide))) (Sx.wanted_none rfl _) rfl (by decide) (fun A F => ?_)
  refine Sx.sv F (Sx.d_conv (v := .int .u32 ((BitVec.setWidth 32 ((Wd.lo dc) / 4294967296#64)).toNat)) F rfl rfl (Sx.c_u64_u32 ((Wd.lo dc) / 4294967296#64))) (Sx.wanted_none rfl _) rfl (by decide) (fun A F => ?_)
  refine Sx.sv F (Sx.d_faddr (v := .pointer (some ⟨g1, 0, none⟩)) F rfl rfl (fa_31_0 _ 0 _)) (Sx.wanted_none rfl _) rfl (by decide) (fun A F => ?_)
  refine Sx.sv F (Sx.d_load1 (i := 1) (v := .int .u64 ((Wd.hi dc).toNat)) one_22 F H rfl rfl rfl rfl) (Sx.wanted_none rfl _) rfl (by decide) (fun A F => ?_)
  refine Sx.sv F (Sx.d_bin (v := .int .u64 (((Wd.hi dc) % 4294967296#64).toNat)) F rfl rfl rfl (Sx.i_rem64 (Wd.hi dc) 4294967296#64 (by decide))) (Sx.wanted_none rfl _) rfl (by decide) (fun A F => ?_)
  refine Sx.sv F (Sx.d_conv (v := .int .u32 ((BitVec.setWidth 32 ((Wd.hi dc) % 4294967296#64)).toNat)) F rfl rfl (Sx.c_u64_u32 ((Wd.hi dc) % 4294967296#64))) (Sx.wanted_none rfl _) rfl (by decide) (fun A F => ?_)
  refine Sx.sv F (Sx.d_faddr (v := .pointer (some ⟨g1, 0, none⟩)) F rfl rfl (fa_31_0 _ 0 _)) (Sx.wanted_none rfl _) rfl (by decide) (fun A F => ?_)
  refine Sx.sv F (Sx.d_load1 (i := 1) (v := .int .u64 ((Wd.hi dc).toNat)) one_22 F H rfl rfl rfl rfl) (Sx.wanted_none rfl _) rfl (by decide) (fun A F => ?_)
  refine Sx.sv F (Sx.d_bin (v := .int .u64 (((Wd.hi dc) / 4294967296#64).toNat)) F rfl rfl rfl (Sx.i_quo64 (Wd.hi dc) 4294967296#64 (by decide))) (Sx.wanted_none rfl _) rfl (by decide) (fun A F => ?_)
  refine Sx.sv F (Sx.d_conv (v := .int .u32 ((BitVec.setWidth 32 ((Wd.hi dc) / 4294967296#64)).toNat)) F rfl rfl (Sx.c_u64_u32 ((Wd.hi dc) / 4294967296#64))) (Sx.wanted_none rfl _) rfl (by decide) (fun A F => ?_)
  refine Sx.sv F (Sx.d_build (qs := #[(0, .int .u32 ((BitVec.setWidth 32 ((Wd.lo dc) % 4294967296#64)).toNat)), (1, .int .u32 ((BitVec.setWidth 32 ((Wd.lo dc) / 4294967296#64)).toNat)), (2, .int .u32 ((BitVec.setWidth 32 ((Wd.hi dc) % 4294967296#64)).toNat)), (3, .int .u32 ((BitVec.setWidth 32 ((Wd.hi dc) / 4294967296#64)).toNat))]) (v := .agg #[.int .u32 ((BitVec.setWidth 32 ((Wd.lo dc) % 4294967296#64)).toNat), .int .u32 ((BitVec.setWidth 32 ((Wd.lo dc) / 4294967296#64)).toNat), .int .u32 ((BitVec.setWidth 32 ((Wd.hi dc) % 4294967296#64)).toNat), .int .u32 ((BitVec.setWidth 32 ((Wd.hi dc) / 4294967296#64)).toNat)]) F rfl rfl (by kernel_rfl)) (Sx.wanted_none rfl _) rfl (by decide) (fun A F => ?_)
  refine Sx.ss F (Sx.d_store (i := 0) (xs := [.int .u32 ((BitVec.setWidth 32 ((Wd.lo dc) % 4294967296#64)).toNat), .int .u32 ((BitVec.setWidth 32 ((Wd.lo dc) / 4294967296#64)).toNat), .int .u32 ((BitVec.setWidth 32 ((Wd.hi dc) % 4294967296#64)).toNat), .int .u32 ((BitVec.setWidth 32 ((Wd.hi dc) / 4294967296#64)).toNat)]) (us := [.int .u32 ((BitVec.setWidth 32 ((Wd.lo dc) % 4294967296#64)).toNat), .int .u32 ((BitVec.setWidth 32 ((Wd.lo dc) / 4294967296#64)).toNat), .int .u32 ((BitVec.setWidth 32 ((Wd.hi dc) % 4294967296#64)).toNat), .int .u32 ((BitVec.setWidth 32 ((Wd.hi dc) / 4294967296#64)).toNat)]) sz_94 F H rfl rfl rfl rfl rfl rfl rfl (Nat.le_of_ble_eq_true rfl) rfl) (Sx.wanted_none rfl _) rfl (fun A w F (H : Sx.Own w0 _ [(true, g2, [.int .u32 ((BitVec.setWidth 32 ((Wd.lo dc) % 4294967296#64)).toNat), .int .u32 ((BitVec.setWidth 32 ((Wd.lo dc) / 4294967296#64)).toNat), .int .u32 ((BitVec.setWidth 32 ((Wd.hi dc) % 4294967296#64)).toNat), .int .u32 ((BitVec.setWidth 32 ((Wd.hi dc) / 4294967296#64)).toNat)]), (true, g1, [.int .u64 ((Wd.hi dc).toNat), .int .u64 ((Wd.lo dc).toNat)])] []) => ?_)
  refine Sx.nil ?_
  refine hK2 _ _ ?_
  refine wp_ret ?_
  try dsimp only [Exit.then, Exit.inBlock, Exit.jump]
  refine Sx.ret1 F Try.results55 (Sx.res_row (i := 0) (xs := [.int .u32 ((BitVec.setWidth 32 ((Wd.lo dc) % 4294967296#64)).toNat), .int .u32 ((BitVec.setWidth 32 ((Wd.lo dc) / 4294967296#64)).toNat), .int .u32 ((BitVec.setWidth 32 ((Wd.hi dc) % 4294967296#64)).toNat), .int .u32 ((BitVec.setWidth 32 ((Wd.hi dc) / 4294967296#64)).toNat)]) rw_94 F H rfl rfl rfl rfl) ⟨?_, H.below⟩
  rw [Hf.low_eq, Hf.low_eq, Hf.top_eq, Hf.top_eq]
set_option maxRecDepth 100000 in
theorem rword12_t (dc : BitVec 128) (k0 k1 : BitVec 32) (w0 : World) : Calls Try.prog 48 #[.agg #[.int .u64 ((Wd.hi dc).toNat), .int .u64 ((Wd.lo dc).toNat), .int .u32 k0.toNat, .int .u32 k1.toNat, .bool true]] w0 fun e w' => e = .returned (.int .u64 ((Hf.word ⟨dc, k0, k1, true⟩).toNat)) ∧ Below w0.heap.size w0 w' := by
  refine Sx.enter (args := [.agg #[.int .u64 ((Wd.hi dc).toNat), .int .u64 ((Wd.lo dc).toNat), .int .u32 k0.toNat, .int .u32 k1.toNat, .bool true]]) Try.func48 rfl Try.ntmps48 (Nat.le_of_ble_eq_true rfl) (fun A F => ?_)
  have H := Sx.Own.start w0
  refine Sx.seq (fun K1 hK1 => ?_)
  refine Sx.plain ?_
  refine Sx.sb F (Sx.d_box F H rfl rfl [.int .u64 ((Wd.hi dc).toNat), .int .u64 ((Wd.lo dc).toNat), .int .u32 k0.toNat, .int .u32 k1.toNat, .bool true] rfl) (Sx.wanted_none rfl _) rfl (by decide) (fun g1 A w F H => ?_)
  refine Sx.sv F (Sx.d_move F (Or.inr rfl) rfl) (Sx.wanted_none rfl _) rfl (by decide) (fun A F => ?_)
  refine Sx.nil ?_
  refine hK1 _ _ ?_
  refine Sx.seq (fun K2 hK2 => ?_)
  have F := Sx.Fr.to F (kv' := [(0, .agg #[.int .u64 ((Wd.hi dc).toNat), .int .u64 ((Wd.lo dc).toNat), .int .u32 k0.toNat, .int .u32 k1.toNat, .bool true]), (1, .pointer (some ⟨g1, 0, none⟩)), (2, .int .u64 0)]) ⟨rfl, rfl, rfl, trivial⟩
  refine Sx.drawn F (by kernel_rfl) (by kernel_rfl) (by kernel_rfl) [some (.pointer (some ⟨g1, 0, none⟩)), some (.agg #[.int .u64 ((Wd.hi dc).toNat), .int .u64 ((Wd.lo dc).toNat)]), some (.agg #[.int .u32 ((Hf.low (Wd.lo dc)).toNat), .int .u32 ((Hf.top (Wd.lo dc)).toNat), .int .u32 ((Hf.low (Wd.hi dc)).toNat), .int .u32 ((Hf.top (Wd.hi dc)).toNat)]), some (.pointer (some ⟨g1, 2, none⟩)), some (.agg #[.int .u32 k0.toNat, .int .u32 k1.toNat]), some (.agg #[.int .u32 (((Ph.mix 10 (Hf.blk dc) ⟨k0, k1⟩).a).toNat), .int .u32 (((Ph.mix 10 (Hf.blk dc) ⟨k0, k1⟩).b).toNat), .int .u32 (((Ph.mix 10 (Hf.blk dc) ⟨k0, k1⟩).c).toNat), .int .u32 (((Ph.mix 10 (Hf.blk dc) ⟨k0, k1⟩).d).toNat)]), none, none] (fun L A w => ∃ g2 : Nat, (L 6 = true → A.eval (.tmp 3) = .pointer (some ⟨g2, 0, none⟩)) ∧ Sx.Own w0 w [(true, g1, [.int .u64 ((Wd.hi dc).toNat), .int .u64 ((Wd.lo dc).toNat), .int .u32 k0.toNat, .int .u32 k1.toNat, .bool true]), (L 6, g2, (cond (L 7) [.int .u32 (((Ph.mix 10 (Hf.blk dc) ⟨k0, k1⟩).a).toNat), .int .u32 (((Ph.mix 10 (Hf.blk dc) ⟨k0, k1⟩).b).toNat), .int .u32 (((Ph.mix 10 (Hf.blk dc) ⟨k0, k1⟩).c).toNat), .int .u32 (((Ph.mix 10 (Hf.blk dc) ⟨k0, k1⟩).d).toNat)] [.int .u32 0, .int .u32 0, .int .u32 0, .int .u32 0]))] []) ⟨0, (fun h => by cases h), H.drew.pad [(false, 0, [.int .u32 0, .int .u32 0, .int .u32 0, .int .u32 0])] rfl [] rfl⟩ ?_ ?_
  · refine ⟨?_, ?_, ?_, ?_, ?_, ?_, ?_, ?_, trivial⟩
    · show Sx.StepAt _ _ _ _ _ _ _ 0
      intro L A w up hun hd F ⟨g2, p6, H⟩
      have f7 : L 7 = false := up 7 0 rfl hun
      rw [f7] at H
      have F := Sx.Fr.to F (kv' := [(1, .pointer (some ⟨g1, 0, none⟩))]) ⟨rfl, trivial⟩
      refine Sx.step_on rfl (Sx.d_faddr (v := .pointer (some ⟨g1, 0, none⟩)) F rfl rfl (fa_86_0 _ 0 _)) ?_
      rintro xv w' ⟨hx, rfl⟩
      exact ⟨(fun cv hc => hx.trans (Option.some.inj (Option.some.inj hc))), ⟨g2, (fun h => (Sx.put_ne rfl _).trans (p6 h)), (by show Sx.Own _ _ _ _; rw [show Inv.add L 0 7 = false from f7]; exact H)⟩⟩
    · show Sx.StepAt _ _ _ _ _ _ _ 1
      intro L A w up hun hd F ⟨g2, p6, H⟩
      have f7 : L 7 = false := up 7 1 rfl hun
      rw [f7] at H
      have F := Sx.Fr.to F (kv' := [(4, .pointer (some ⟨g1, 0, none⟩))]) ⟨rfl, trivial⟩
      refine Sx.step_on rfl (Sx.d_load (i := 0) (xs := [.int .u64 ((Wd.hi dc).toNat), .int .u64 ((Wd.lo dc).toNat)]) rw_31 F H rfl rfl rfl rfl rfl) ?_
      rintro xv w' ⟨hx, rfl⟩
      exact ⟨(fun cv hc => hx.trans (Option.some.inj (Option.some.inj hc))), ⟨g2, (fun h => (Sx.put_ne rfl _).trans (p6 h)), (by show Sx.Own _ _ _ _; rw [show Inv.add L 1 7 = false from f7]; exact H)⟩⟩
    · show Sx.StepAt _ _ _ _ _ _ _ 2
      intro L A w up hun hd F ⟨g2, p6, H⟩
      have f7 : L 7 = false := up 7 2 rfl hun
      rw [f7] at H
      have F := Sx.Fr.to F (kv' := [(5, .agg #[.int .u64 ((Wd.hi dc).toNat), .int .u64 ((Wd.lo dc).toNat)])]) ⟨rfl, trivial⟩
      refine Sx.step_on rfl (Sx.d_call (vs := [.agg #[.int .u64 ((Wd.hi dc).toNat), .int .u64 ((Wd.lo dc).toNat)]]) (v := .agg #[.int .u32 ((Hf.low (Wd.lo dc)).toNat), .int .u32 ((Hf.top (Wd.lo dc)).toNat), .int .u32 ((Hf.low (Wd.hi dc)).toNat), .int .u32 ((Hf.top (Wd.hi dc)).toNat)]) if_55 F H rfl rfl (rblock12_c dc _)) ?_
      rintro xv w' ⟨hx, H⟩
      exact ⟨(fun cv hc => hx.trans (Option.some.inj (Option.some.inj hc))), ⟨g2, (fun h => (Sx.put_ne rfl _).trans (p6 h)), (by show Sx.Own _ _ _ _; rw [show Inv.add L 2 7 = false from f7]; exact H)⟩⟩
    · show Sx.StepAt _ _ _ _ _ _ _ 3
      intro L A w up hun hd F ⟨g2, p6, H⟩
      have f7 : L 7 = false := up 7 3 rfl hun
      rw [f7] at H
      have F := Sx.Fr.to F (kv' := [(1, .pointer (some ⟨g1, 0, none⟩))]) ⟨rfl, trivial⟩
      refine Sx.step_on rfl (Sx.d_faddr (v := .pointer (some ⟨g1, 2, none⟩)) F rfl rfl (fa_86_1 _ 0 _)) ?_
      rintro xv w' ⟨hx, rfl⟩
      exact ⟨(fun cv hc => hx.trans (Option.some.inj (Option.some.inj hc))), ⟨g2, (fun h => (Sx.put_ne rfl _).trans (p6 h)), (by show Sx.Own _ _ _ _; rw [show Inv.add L 3 7 = false from f7]; exact H)⟩⟩
    · show Sx.StepAt _ _ _ _ _ _ _ 4
      intro L A w up hun hd F ⟨g2, p6, H⟩
      have f7 : L 7 = false := up 7 4 rfl hun
      rw [f7] at H
      have F := Sx.Fr.to F (kv' := [(7, .pointer (some ⟨g1, 2, none⟩))]) ⟨rfl, trivial⟩
      refine Sx.step_on rfl (Sx.d_load (i := 0) (xs := [.int .u32 k0.toNat, .int .u32 k1.toNat]) rw_79 F H rfl rfl rfl rfl rfl) ?_
      rintro xv w' ⟨hx, rfl⟩
      exact ⟨(fun cv hc => hx.trans (Option.some.inj (Option.some.inj hc))), ⟨g2, (fun h => (Sx.put_ne rfl _).trans (p6 h)), (by show Sx.Own _ _ _ _; rw [show Inv.add L 4 7 = false from f7]; exact H)⟩⟩
    · show Sx.StepAt _ _ _ _ _ _ _ 5
      intro L A w up hun hd F ⟨g2, p6, H⟩
      have f7 : L 7 = false := up 7 5 rfl hun
      rw [f7] at H
      have F := Sx.Fr.to F (kv' := [(6, .agg #[.int .u32 ((Hf.low (Wd.lo dc)).toNat), .int .u32 ((Hf.top (Wd.lo dc)).toNat), .int .u32 ((Hf.low (Wd.hi dc)).toNat), .int .u32 ((Hf.top (Wd.hi dc)).toNat)]), (8, .agg #[.int .u32 k0.toNat, .int .u32 k1.toNat])]) ⟨rfl, rfl, trivial⟩
      refine Sx.step_on rfl (Sx.d_call (vs := [.agg #[.int .u32 ((Hf.low (Wd.lo dc)).toNat), .int .u32 ((Hf.top (Wd.lo dc)).toNat), .int .u32 ((Hf.low (Wd.hi dc)).toNat), .int .u32 ((Hf.top (Wd.hi dc)).toNat)], .agg #[.int .u32 k0.toNat, .int .u32 k1.toNat], .int .i64 10]) (v := .agg #[.int .u32 (((Ph.mix 10 (Hf.blk dc) ⟨k0, k1⟩).a).toNat), .int .u32 (((Ph.mix 10 (Hf.blk dc) ⟨k0, k1⟩).b).toNat), .int .u32 (((Ph.mix 10 (Hf.blk dc) ⟨k0, k1⟩).c).toNat), .int .u32 (((Ph.mix 10 (Hf.blk dc) ⟨k0, k1⟩).d).toNat)]) if_71 F H rfl rfl (rmixb_c dc k0 k1 _)) ?_
      rintro xv w' ⟨hx, H⟩
      exact ⟨(fun cv hc => hx.trans (Option.some.inj (Option.some.inj hc))), ⟨g2, (fun h => (Sx.put_ne rfl _).trans (p6 h)), (by show Sx.Own _ _ _ _; rw [show Inv.add L 5 7 = false from f7]; exact H)⟩⟩
    · show Sx.StepAt _ _ _ _ _ _ _ 6
      intro L A w up hun hd F ⟨g2, p6, H⟩
      have f6 : L 6 = false := hun
      have f7 : L 7 = false := up 7 6 rfl hun
      rw [f6, f7] at H
      have F := Sx.Fr.to F (kv' := []) trivial
      refine Sx.step_on rfl (Sx.d_alloc_at H rfl 1 [.int .u32 0, .int .u32 0, .int .u32 0, .int .u32 0] zero_94) ?_
      rintro xv w' ⟨g', hx, H⟩
      exact ⟨(fun cv hc => by have h := Option.some.inj hc; cases h), ⟨g', (fun _ => (Sx.put_same F (by decide) _).trans hx), (by show Sx.Own _ _ _ _; rw [show Inv.add L 6 7 = false from f7]; exact H)⟩⟩
    · show Sx.StepAt _ _ _ _ _ _ _ 7
      intro L A w up hun hd F ⟨g2, p6, H⟩
      have t6 : L 6 = true := hd 6 rfl
      have f7 : L 7 = false := hun
      rw [t6, f7] at H
      have F := Sx.Fr.to F (kv' := [(9, .agg #[.int .u32 (((Ph.mix 10 (Hf.blk dc) ⟨k0, k1⟩).a).toNat), .int .u32 (((Ph.mix 10 (Hf.blk dc) ⟨k0, k1⟩).b).toNat), .int .u32 (((Ph.mix 10 (Hf.blk dc) ⟨k0, k1⟩).c).toNat), .int .u32 (((Ph.mix 10 (Hf.blk dc) ⟨k0, k1⟩).d).toNat)])]) ⟨rfl, trivial⟩
      have F := Sx.Fr.add F (p6 t6)
      refine Sx.step_on rfl (Sx.d_store (i := 1) (xs := [.int .u32 (((Ph.mix 10 (Hf.blk dc) ⟨k0, k1⟩).a).toNat), .int .u32 (((Ph.mix 10 (Hf.blk dc) ⟨k0, k1⟩).b).toNat), .int .u32 (((Ph.mix 10 (Hf.blk dc) ⟨k0, k1⟩).c).toNat), .int .u32 (((Ph.mix 10 (Hf.blk dc) ⟨k0, k1⟩).d).toNat)]) (us := [.int .u32 (((Ph.mix 10 (Hf.blk dc) ⟨k0, k1⟩).a).toNat), .int .u32 (((Ph.mix 10 (Hf.blk dc) ⟨k0, k1⟩).b).toNat), .int .u32 (((Ph.mix 10 (Hf.blk dc) ⟨k0, k1⟩).c).toNat), .int .u32 (((Ph.mix 10 (Hf.blk dc) ⟨k0, k1⟩).d).toNat)]) sz_94 F H rfl rfl rfl rfl rfl rfl rfl (Nat.le_of_ble_eq_true rfl) rfl) ?_
      intro xv w' H
      exact ⟨(fun cv hc => by have h := Option.some.inj hc; cases h), ⟨g2, p6, (by show Sx.Own _ _ _ _; rw [show Inv.add L 7 6 = true from t6]; exact H)⟩⟩
  · intro L A w hL F ⟨g2, p6, H⟩
    have t6 : L 6 = true := hL 6 rfl
    have t7 : L 7 = true := hL 7 rfl
    rw [t6, t7] at H
    have F := Sx.Fr.add F (p6 t6)
    have F := Sx.Fr.to F (kv' := [(1, .pointer (some ⟨g1, 0, none⟩)), (2, .int .u64 0), (3, .pointer (some ⟨g2, 0, none⟩))]) ⟨rfl, rfl, rfl, trivial⟩
    refine hK2 _ _ ?_
    refine Sx.seq (fun K3 hK3 => ?_)
    refine Sx.seq (fun K4 hK4 => ?_)
    refine Sx.plain ?_
    refine Sx.sv F (Sx.d_faddr (v := .pointer (some ⟨g1, 4, none⟩)) F rfl rfl (fa_86_2 _ 0 _)) (Sx.wanted_none rfl _) rfl (by decide) (fun A F => ?_)
    refine Sx.sv F (Sx.d_load1 (i := 0) (v := .bool true) one_4 F H rfl rfl rfl rfl) (Sx.wanted_none rfl _) rfl (by decide) (fun A F => ?_)
    refine Sx.nil ?_
    refine hK4 _ _ ?_
    refine Sx.condT F rfl ?_
    refine Sx.seq (fun K5 hK5 => ?_)
    refine Sx.plain ?_
    refine Sx.sv F (Sx.d_iaddr (v := .pointer (some ⟨g2, 2, none⟩)) F rfl rfl rfl (by kernel_rfl)) (Sx.wanted_none rfl _) rfl (by decide) (fun A F => ?_)
    refine Sx.sv F (Sx.d_load1 (i := 1) (v := .int .u32 (((Ph.mix 10 (Hf.blk dc) ⟨k0, k1⟩).c).toNat)) one_78 F H rfl rfl rfl rfl) (Sx.wanted_none rfl _) rfl (by decide) (fun A F => ?_)
    refine Sx.sv F (Sx.d_conv (v := .int .u64 ((BitVec.setWidth 64 ((Ph.mix 10 (Hf.blk dc) ⟨k0, k1⟩).c)).toNat)) F rfl rfl (Sx.c_u32_u64 ((Ph.mix 10 (Hf.blk dc) ⟨k0, k1⟩).c))) (Sx.wanted_none rfl _) rfl (by decide) (fun A F => ?_)
    refine Sx.sv F (Sx.d_iaddr (v := .pointer (some ⟨g2, 3, none⟩)) F rfl rfl rfl (by kernel_rfl)) (Sx.wanted_none rfl _) rfl (by decide) (fun A F => ?_)
    refine Sx.sv F (Sx.d_load1 (i := 1) (v := .int .u32 (((Ph.mix 10 (Hf.blk dc) ⟨k0, k1⟩).d).toNat)) one_78 F H rfl rfl rfl rfl) (Sx.wanted_none rfl _) rfl (by decide) (fun A F => ?_)
    refine Sx.sv F (Sx.d_conv (v := .int .u64 ((BitVec.setWidth 64 ((Ph.mix 10 (Hf.blk dc) ⟨k0, k1⟩).d)).toNat)) F rfl rfl (Sx.c_u32_u64 ((Ph.mix 10 (Hf.blk dc) ⟨k0, k1⟩).d))) (Sx.wanted_none rfl _) rfl (by decide) (fun A F => ?_)
    refine Sx.sv F (Sx.d_bin (v := .int .u64 ((4294967296#64 * (BitVec.setWidth 64 ((Ph.mix 10 (Hf.blk dc) ⟨k0, k1⟩).d))).toNat)) F rfl rfl rfl (Sx.i_mul64 4294967296#64 (BitVec.setWidth 64 ((Ph.mix 10 (Hf.blk dc) ⟨k0, k1⟩).d)))) (Sx.wanted_none rfl _) rfl (by decide) (fun A F => ?_)
    refine Sx.sv F (Sx.d_bin (v := .int .u64 (((BitVec.setWidth 64 ((Ph.mix 10 (Hf.blk dc) ⟨k0, k1⟩).c)) + (4294967296#64 * (BitVec.setWidth 64 ((Ph.mix 10 (Hf.blk dc) ⟨k0, k1⟩).d)))).toNat)) F rfl rfl rfl (Sx.i_add64 (BitVec.setWidth 64 ((Ph.mix 10 (Hf.blk dc) ⟨k0, k1⟩).c)) (4294967296#64 * (BitVec.setWidth 64 ((Ph.mix 10 (Hf.blk dc) ⟨k0, k1⟩).d))))) (Sx.wanted_none rfl _) rfl (by decide) (fun A F => ?_)
    refine Sx.sv F (Sx.d_move F (Or.inr rfl) rfl) (Sx.wanted_none rfl _) rfl (by decide) (fun A F => ?_)
    refine Sx.nil ?_
    refine hK5 _ _ ?_
    refine wp_ret ?_
    try dsimp only [Exit.then, Exit.inBlock, Exit.jump]
    refine Sx.ret1 F Try.results48 (Sx.res_tmp (v := .int .u64 (((BitVec.setWidth 64 ((Ph.mix 10 (Hf.blk dc) ⟨k0, k1⟩).c)) + (4294967296#64 * (BitVec.setWidth 64 ((Ph.mix 10 (Hf.blk dc) ⟨k0, k1⟩).d)))).toNat)) F rfl) ⟨?_, H.below⟩
    rw [Hf.pair_add, ← Hf.word_t]
set_option maxRecDepth 100000 in
theorem rword12_f (dc : BitVec 128) (k0 k1 : BitVec 32) (w0 : World) : Calls Try.prog 48 #[.agg #[.int .u64 ((Wd.hi dc).toNat), .int .u64 ((Wd.lo dc).toNat), .int .u32 k0.toNat, .int .u32 k1.toNat, .bool false]] w0 fun e w' => e = .returned (.int .u64 ((Hf.word ⟨dc, k0, k1, false⟩).toNat)) ∧ Below w0.heap.size w0 w' := by
  refine Sx.enter (args := [.agg #[.int .u64 ((Wd.hi dc).toNat), .int .u64 ((Wd.lo dc).toNat), .int .u32 k0.toNat, .int .u32 k1.toNat, .bool false]]) Try.func48 rfl Try.ntmps48 (Nat.le_of_ble_eq_true rfl) (fun A F => ?_)
  have H := Sx.Own.start w0
  refine Sx.seq (fun K1 hK1 => ?_)
  refine Sx.plain ?_
  refine Sx.sb F (Sx.d_box F H rfl rfl [.int .u64 ((Wd.hi dc).toNat), .int .u64 ((Wd.lo dc).toNat), .int .u32 k0.toNat, .int .u32 k1.toNat, .bool false] rfl) (Sx.wanted_none rfl _) rfl (by decide) (fun g1 A w F H => ?_)
  refine Sx.sv F (Sx.d_move F (Or.inr rfl) rfl) (Sx.wanted_none rfl _) rfl (by decide) (fun A F => ?_)
  refine Sx.nil ?_
  refine hK1 _ _ ?_
  refine Sx.seq (fun K2 hK2 => ?_)
  have F := Sx.Fr.to F (kv' := [(0, .agg #[.int .u64 ((Wd.hi dc).toNat), .int .u64 ((Wd.lo dc).toNat), .int .u32 k0.toNat, .int .u32 k1.toNat, .bool false]), (1, .pointer (some ⟨g1, 0, none⟩)), (2, .int .u64 0)]) ⟨rfl, rfl, rfl, trivial⟩
  refine Sx.drawn F (by kernel_rfl) (by kernel_rfl) (by kernel_rfl) [some (.pointer (some ⟨g1, 0, none⟩)), some (.agg #[.int .u64 ((Wd.hi dc).toNat), .int .u64 ((Wd.lo dc).toNat)]), some (.agg #[.int .u32 ((Hf.low (Wd.lo dc)).toNat), .int .u32 ((Hf.top (Wd.lo dc)).toNat), .int .u32 ((Hf.low (Wd.hi dc)).toNat), .int .u32 ((Hf.top (Wd.hi dc)).toNat)]), some (.pointer (some ⟨g1, 2, none⟩)), some (.agg #[.int .u32 k0.toNat, .int .u32 k1.toNat]), some (.agg #[.int .u32 (((Ph.mix 10 (Hf.blk dc) ⟨k0, k1⟩).a).toNat), .int .u32 (((Ph.mix 10 (Hf.blk dc) ⟨k0, k1⟩).b).toNat), .int .u32 (((Ph.mix 10 (Hf.blk dc) ⟨k0, k1⟩).c).toNat), .int .u32 (((Ph.mix 10 (Hf.blk dc) ⟨k0, k1⟩).d).toNat)]), none, none] (fun L A w => ∃ g2 : Nat, (L 6 = true → A.eval (.tmp 3) = .pointer (some ⟨g2, 0, none⟩)) ∧ Sx.Own w0 w [(true, g1, [.int .u64 ((Wd.hi dc).toNat), .int .u64 ((Wd.lo dc).toNat), .int .u32 k0.toNat, .int .u32 k1.toNat, .bool false]), (L 6, g2, (cond (L 7) [.int .u32 (((Ph.mix 10 (Hf.blk dc) ⟨k0, k1⟩).a).toNat), .int .u32 (((Ph.mix 10 (Hf.blk dc) ⟨k0, k1⟩).b).toNat), .int .u32 (((Ph.mix 10 (Hf.blk dc) ⟨k0, k1⟩).c).toNat), .int .u32 (((Ph.mix 10 (Hf.blk dc) ⟨k0, k1⟩).d).toNat)] [.int .u32 0, .int .u32 0, .int .u32 0, .int .u32 0]))] []) ⟨0, (fun h => by cases h), H.drew.pad [(false, 0, [.int .u32 0, .int .u32 0, .int .u32 0, .int .u32 0])] rfl [] rfl⟩ ?_ ?_
  · refine ⟨?_, ?_, ?_, ?_, ?_, ?_, ?_, ?_, trivial⟩
    · show Sx.StepAt _ _ _ _ _ _ _ 0
      intro L A w up hun hd F ⟨g2, p6, H⟩
      have f7 : L 7 = false := up 7 0 rfl hun
      rw [f7] at H
      have F := Sx.Fr.to F (kv' := [(1, .pointer (some ⟨g1, 0, none⟩))]) ⟨rfl, trivial⟩
      refine Sx.step_on rfl (Sx.d_faddr (v := .pointer (some ⟨g1, 0, none⟩)) F rfl rfl (fa_86_0 _ 0 _)) ?_
      rintro xv w' ⟨hx, rfl⟩
      exact ⟨(fun cv hc => hx.trans (Option.some.inj (Option.some.inj hc))), ⟨g2, (fun h => (Sx.put_ne rfl _).trans (p6 h)), (by show Sx.Own _ _ _ _; rw [show Inv.add L 0 7 = false from f7]; exact H)⟩⟩
    · show Sx.StepAt _ _ _ _ _ _ _ 1
      intro L A w up hun hd F ⟨g2, p6, H⟩
      have f7 : L 7 = false := up 7 1 rfl hun
      rw [f7] at H
      have F := Sx.Fr.to F (kv' := [(4, .pointer (some ⟨g1, 0, none⟩))]) ⟨rfl, trivial⟩
      refine Sx.step_on rfl (Sx.d_load (i := 0) (xs := [.int .u64 ((Wd.hi dc).toNat), .int .u64 ((Wd.lo dc).toNat)]) rw_31 F H rfl rfl rfl rfl rfl) ?_
      rintro xv w' ⟨hx, rfl⟩
      exact ⟨(fun cv hc => hx.trans (Option.some.inj (Option.some.inj hc))), ⟨g2, (fun h => (Sx.put_ne rfl _).trans (p6 h)), (by show Sx.Own _ _ _ _; rw [show Inv.add L 1 7 = false from f7]; exact H)⟩⟩
    · show Sx.StepAt _ _ _ _ _ _ _ 2
      intro L A w up hun hd F ⟨g2, p6, H⟩
      have f7 : L 7 = false := up 7 2 rfl hun
      rw [f7] at H
      have F := Sx.Fr.to F (kv' := [(5, .agg #[.int .u64 ((Wd.hi dc).toNat), .int .u64 ((Wd.lo dc).toNat)])]) ⟨rfl, trivial⟩
      refine Sx.step_on rfl (Sx.d_call (vs := [.agg #[.int .u64 ((Wd.hi dc).toNat), .int .u64 ((Wd.lo dc).toNat)]]) (v := .agg #[.int .u32 ((Hf.low (Wd.lo dc)).toNat), .int .u32 ((Hf.top (Wd.lo dc)).toNat), .int .u32 ((Hf.low (Wd.hi dc)).toNat), .int .u32 ((Hf.top (Wd.hi dc)).toNat)]) if_55 F H rfl rfl (rblock12_c dc _)) ?_
      rintro xv w' ⟨hx, H⟩
      exact ⟨(fun cv hc => hx.trans (Option.some.inj (Option.some.inj hc))), ⟨g2, (fun h => (Sx.put_ne rfl _).trans (p6 h)), (by show Sx.Own _ _ _ _; rw [show Inv.add L 2 7 = false from f7]; exact H)⟩⟩
    · show Sx.StepAt _ _ _ _ _ _ _ 3
      intro L A w up hun hd F ⟨g2, p6, H⟩
      have f7 : L 7 = false := up 7 3 rfl hun
      rw [f7] at H
      have F := Sx.Fr.to F (kv' := [(1, .pointer (some ⟨g1, 0, none⟩))]) ⟨rfl, trivial⟩
      refine Sx.step_on rfl (Sx.d_faddr (v := .pointer (some ⟨g1, 2, none⟩)) F rfl rfl (fa_86_1 _ 0 _)) ?_
      rintro xv w' ⟨hx, rfl⟩
      exact ⟨(fun cv hc => hx.trans (Option.some.inj (Option.some.inj hc))), ⟨g2, (fun h => (Sx.put_ne rfl _).trans (p6 h)), (by show Sx.Own _ _ _ _; rw [show Inv.add L 3 7 = false from f7]; exact H)⟩⟩
    · show Sx.StepAt _ _ _ _ _ _ _ 4
      intro L A w up hun hd F ⟨g2, p6, H⟩
      have f7 : L 7 = false := up 7 4 rfl hun
      rw [f7] at H
      have F := Sx.Fr.to F (kv' := [(7, .pointer (some ⟨g1, 2, none⟩))]) ⟨rfl, trivial⟩
      refine Sx.step_on rfl (Sx.d_load (i := 0) (xs := [.int .u32 k0.toNat, .int .u32 k1.toNat]) rw_79 F H rfl rfl rfl rfl rfl) ?_
      rintro xv w' ⟨hx, rfl⟩
      exact ⟨(fun cv hc => hx.trans (Option.some.inj (Option.some.inj hc))), ⟨g2, (fun h => (Sx.put_ne rfl _).trans (p6 h)), (by show Sx.Own _ _ _ _; rw [show Inv.add L 4 7 = false from f7]; exact H)⟩⟩
    · show Sx.StepAt _ _ _ _ _ _ _ 5
      intro L A w up hun hd F ⟨g2, p6, H⟩
      have f7 : L 7 = false := up 7 5 rfl hun
      rw [f7] at H
      have F := Sx.Fr.to F (kv' := [(6, .agg #[.int .u32 ((Hf.low (Wd.lo dc)).toNat), .int .u32 ((Hf.top (Wd.lo dc)).toNat), .int .u32 ((Hf.low (Wd.hi dc)).toNat), .int .u32 ((Hf.top (Wd.hi dc)).toNat)]), (8, .agg #[.int .u32 k0.toNat, .int .u32 k1.toNat])]) ⟨rfl, rfl, trivial⟩
      refine Sx.step_on rfl (Sx.d_call (vs := [.agg #[.int .u32 ((Hf.low (Wd.lo dc)).toNat), .int .u32 ((Hf.top (Wd.lo dc)).toNat), .int .u32 ((Hf.low (Wd.hi dc)).toNat), .int .u32 ((Hf.top (Wd.hi dc)).toNat)], .agg #[.int .u32 k0.toNat, .int .u32 k1.toNat], .int .i64 10]) (v := .agg #[.int .u32 (((Ph.mix 10 (Hf.blk dc) ⟨k0, k1⟩).a).toNat), .int .u32 (((Ph.mix 10 (Hf.blk dc) ⟨k0, k1⟩).b).toNat), .int .u32 (((Ph.mix 10 (Hf.blk dc) ⟨k0, k1⟩).c).toNat), .int .u32 (((Ph.mix 10 (Hf.blk dc) ⟨k0, k1⟩).d).toNat)]) if_71 F H rfl rfl (rmixb_c dc k0 k1 _)) ?_
      rintro xv w' ⟨hx, H⟩
      exact ⟨(fun cv hc => hx.trans (Option.some.inj (Option.some.inj hc))), ⟨g2, (fun h => (Sx.put_ne rfl _).trans (p6 h)), (by show Sx.Own _ _ _ _; rw [show Inv.add L 5 7 = false from f7]; exact H)⟩⟩
    · show Sx.StepAt _ _ _ _ _ _ _ 6
      intro L A w up hun hd F ⟨g2, p6, H⟩
      have f6 : L 6 = false := hun
      have f7 : L 7 = false := up 7 6 rfl hun
      rw [f6, f7] at H
      have F := Sx.Fr.to F (kv' := []) trivial
      refine Sx.step_on rfl (Sx.d_alloc_at H rfl 1 [.int .u32 0, .int .u32 0, .int .u32 0, .int .u32 0] zero_94) ?_
      rintro xv w' ⟨g', hx, H⟩
      exact ⟨(fun cv hc => by have h := Option.some.inj hc; cases h), ⟨g', (fun _ => (Sx.put_same F (by decide) _).trans hx), (by show Sx.Own _ _ _ _; rw [show Inv.add L 6 7 = false from f7]; exact H)⟩⟩
    · show Sx.StepAt _ _ _ _ _ _ _ 7
      intro L A w up hun hd F ⟨g2, p6, H⟩
      have t6 : L 6 = true := hd 6 rfl
      have f7 : L 7 = false := hun
      rw [t6, f7] at H
      have F := Sx.Fr.to F (kv' := [(9, .agg #[.int .u32 (((Ph.mix 10 (Hf.blk dc) ⟨k0, k1⟩).a).toNat), .int .u32 (((Ph.mix 10 (Hf.blk dc) ⟨k0, k1⟩).b).toNat), .int .u32 (((Ph.mix 10 (Hf.blk dc) ⟨k0, k1⟩).c).toNat), .int .u32 (((Ph.mix 10 (Hf.blk dc) ⟨k0, k1⟩).d).toNat)])]) ⟨rfl, trivial⟩
      have F := Sx.Fr.add F (p6 t6)
      refine Sx.step_on rfl (Sx.d_store (i := 1) (xs := [.int .u32 (((Ph.mix 10 (Hf.blk dc) ⟨k0, k1⟩).a).toNat), .int .u32 (((Ph.mix 10 (Hf.blk dc) ⟨k0, k1⟩).b).toNat), .int .u32 (((Ph.mix 10 (Hf.blk dc) ⟨k0, k1⟩).c).toNat), .int .u32 (((Ph.mix 10 (Hf.blk dc) ⟨k0, k1⟩).d).toNat)]) (us := [.int .u32 (((Ph.mix 10 (Hf.blk dc) ⟨k0, k1⟩).a).toNat), .int .u32 (((Ph.mix 10 (Hf.blk dc) ⟨k0, k1⟩).b).toNat), .int .u32 (((Ph.mix 10 (Hf.blk dc) ⟨k0, k1⟩).c).toNat), .int .u32 (((Ph.mix 10 (Hf.blk dc) ⟨k0, k1⟩).d).toNat)]) sz_94 F H rfl rfl rfl rfl rfl rfl rfl (Nat.le_of_ble_eq_true rfl) rfl) ?_
      intro xv w' H
      exact ⟨(fun cv hc => by have h := Option.some.inj hc; cases h), ⟨g2, p6, (by show Sx.Own _ _ _ _; rw [show Inv.add L 7 6 = true from t6]; exact H)⟩⟩
  · intro L A w hL F ⟨g2, p6, H⟩
    have t6 : L 6 = true := hL 6 rfl
    have t7 : L 7 = true := hL 7 rfl
    rw [t6, t7] at H
    have F := Sx.Fr.add F (p6 t6)
    have F := Sx.Fr.to F (kv' := [(1, .pointer (some ⟨g1, 0, none⟩)), (2, .int .u64 0), (3, .pointer (some ⟨g2, 0, none⟩))]) ⟨rfl, rfl, rfl, trivial⟩
    refine hK2 _ _ ?_
    refine Sx.seq (fun K3 hK3 => ?_)
    refine Sx.seq (fun K4 hK4 => ?_)
    refine Sx.plain ?_
    refine Sx.sv F (Sx.d_faddr (v := .pointer (some ⟨g1, 4, none⟩)) F rfl rfl (fa_86_2 _ 0 _)) (Sx.wanted_none rfl _) rfl (by decide) (fun A F => ?_)
    refine Sx.sv F (Sx.d_load1 (i := 0) (v := .bool false) one_4 F H rfl rfl rfl rfl) (Sx.wanted_none rfl _) rfl (by decide) (fun A F => ?_)
    refine Sx.nil ?_
    refine hK4 _ _ ?_
    refine Sx.condF F rfl ?_
    refine wp_skip ?_
    refine hK3 _ _ ?_
    refine Sx.seq (fun K5 hK5 => ?_)
    refine Sx.plain ?_
    refine Sx.sv F (Sx.d_iaddr (v := .pointer (some ⟨g2, 0, none⟩)) F rfl rfl rfl (by kernel_rfl)) (Sx.wanted_none rfl _) rfl (by decide) (fun A F => ?_)
    refine Sx.sv F (Sx.d_load1 (i := 1) (v := .int .u32 (((Ph.mix 10 (Hf.blk dc) ⟨k0, k1⟩).a).toNat)) one_78 F H rfl rfl rfl rfl) (Sx.wanted_none rfl _) rfl (by decide) (fun A F => ?_)
    refine Sx.sv F (Sx.d_conv (v := .int .u64 ((BitVec.setWidth 64 ((Ph.mix 10 (Hf.blk dc) ⟨k0, k1⟩).a)).toNat)) F rfl rfl (Sx.c_u32_u64 ((Ph.mix 10 (Hf.blk dc) ⟨k0, k1⟩).a))) (Sx.wanted_none rfl _) rfl (by decide) (fun A F => ?_)
    refine Sx.sv F (Sx.d_iaddr (v := .pointer (some ⟨g2, 1, none⟩)) F rfl rfl rfl (by kernel_rfl)) (Sx.wanted_none rfl _) rfl (by decide) (fun A F => ?_)
    refine Sx.sv F (Sx.d_load1 (i := 1) (v := .int .u32 (((Ph.mix 10 (Hf.blk dc) ⟨k0, k1⟩).b).toNat)) one_78 F H rfl rfl rfl rfl) (Sx.wanted_none rfl _) rfl (by decide) (fun A F => ?_)
    refine Sx.sv F (Sx.d_conv (v := .int .u64 ((BitVec.setWidth 64 ((Ph.mix 10 (Hf.blk dc) ⟨k0, k1⟩).b)).toNat)) F rfl rfl (Sx.c_u32_u64 ((Ph.mix 10 (Hf.blk dc) ⟨k0, k1⟩).b))) (Sx.wanted_none rfl _) rfl (by decide) (fun A F => ?_)
    refine Sx.sv F (Sx.d_bin (v := .int .u64 ((4294967296#64 * (BitVec.setWidth 64 ((Ph.mix 10 (Hf.blk dc) ⟨k0, k1⟩).b))).toNat)) F rfl rfl rfl (Sx.i_mul64 4294967296#64 (BitVec.setWidth 64 ((Ph.mix 10 (Hf.blk dc) ⟨k0, k1⟩).b)))) (Sx.wanted_none rfl _) rfl (by decide) (fun A F => ?_)
    refine Sx.sv F (Sx.d_bin (v := .int .u64 (((BitVec.setWidth 64 ((Ph.mix 10 (Hf.blk dc) ⟨k0, k1⟩).a)) + (4294967296#64 * (BitVec.setWidth 64 ((Ph.mix 10 (Hf.blk dc) ⟨k0, k1⟩).b)))).toNat)) F rfl rfl rfl (Sx.i_add64 (BitVec.setWidth 64 ((Ph.mix 10 (Hf.blk dc) ⟨k0, k1⟩).a)) (4294967296#64 * (BitVec.setWidth 64 ((Ph.mix 10 (Hf.blk dc) ⟨k0, k1⟩).b))))) (Sx.wanted_none rfl _) rfl (by decide) (fun A F => ?_)
    refine Sx.sv F (Sx.d_move F (Or.inr rfl) rfl) (Sx.wanted_none rfl _) rfl (by decide) (fun A F => ?_)
    refine Sx.nil ?_
    refine hK5 _ _ ?_
    refine wp_ret ?_
    try dsimp only [Exit.then, Exit.inBlock, Exit.jump]
    refine Sx.ret1 F Try.results48 (Sx.res_tmp (v := .int .u64 (((BitVec.setWidth 64 ((Ph.mix 10 (Hf.blk dc) ⟨k0, k1⟩).a)) + (4294967296#64 * (BitVec.setWidth 64 ((Ph.mix 10 (Hf.blk dc) ⟨k0, k1⟩).b)))).toNat)) F rfl) ⟨?_, H.below⟩
    rw [Hf.pair_add, ← Hf.word_f]
set_option maxRecDepth 100000 in
theorem rfar12_t (dc : BitVec 128) (k0 k1 : BitVec 32) (n : BitVec 128) (w0 : World) : Calls Try.prog 53 #[.agg #[.int .u64 ((Wd.hi dc).toNat), .int .u64 ((Wd.lo dc).toNat), .int .u32 k0.toNat, .int .u32 k1.toNat, .bool true], .agg #[.int .u64 ((Wd.hi n).toNat), .int .u64 ((Wd.lo n).toNat)]] w0 fun e w' => e = .returned (.agg #[.int .u64 ((Wd.hi ((Hf.jump ⟨dc, k0, k1, true⟩ n).c)).toNat), .int .u64 ((Wd.lo ((Hf.jump ⟨dc, k0, k1, true⟩ n).c)).toNat), .int .u32 (((Hf.jump ⟨dc, k0, k1, true⟩ n).k0).toNat), .int .u32 (((Hf.jump ⟨dc, k0, k1, true⟩ n).k1).toNat), .bool ((Hf.jump ⟨dc, k0, k1, true⟩ n).b)]) ∧ Below w0.heap.size w0 w' := by
  refine Sx.enter (args := [.agg #[.int .u64 ((Wd.hi dc).toNat), .int .u64 ((Wd.lo dc).toNat), .int .u32 k0.toNat, .int .u32 k1.toNat, .bool true], .agg #[.int .u64 ((Wd.hi n).toNat), .int .u64 ((Wd.lo n).toNat)]]) Try.func53 rfl Try.ntmps53 (Nat.le_of_ble_eq_true rfl) (fun A F => ?_)
  have H := Sx.Own.start w0
  refine Sx.seq (fun K1 hK1 => ?_)
  refine Sx.plain ?_
  refine Sx.sb F (Sx.d_box F H rfl rfl [.int .u64 ((Wd.hi dc).toNat), .int .u64 ((Wd.lo dc).toNat), .int .u32 k0.toNat, .int .u32 k1.toNat, .bool true] rfl) (Sx.wanted_none rfl _) rfl (by decide) (fun g1 A w F H => ?_)
  refine Sx.sb F (Sx.d_box F H rfl rfl [.int .u64 ((Wd.hi n).toNat), .int .u64 ((Wd.lo n).toNat)] rfl) (Sx.wanted_none rfl _) rfl (by decide) (fun g2 A w F H => ?_)
  refine Sx.sb F (Sx.d_alloc H rfl [.int .u64 ((Wd.hi 0#128).toNat), .int .u64 ((Wd.lo 0#128).toNat), .int .u32 0, .int .u32 0, .bool false] zero_86) (Sx.wanted_none rfl _) rfl (by decide) (fun g3 A w F H => ?_)
  refine Sx.nil ?_
  refine hK1 _ _ ?_
  refine Sx.seq (fun K2 hK2 => ?_)
  refine Sx.plain ?_
  refine Sx.sv F (Sx.d_move F (Or.inr rfl) rfl) (Sx.wanted_none rfl _) rfl (by decide) (fun A F => ?_)
  refine Sx.nil ?_
  refine hK2 _ _ ?_
  refine Sx.seq (fun K3 hK3 => ?_)
  refine Sx.seq (fun K4 hK4 => ?_)
  refine Sx.plain ?_
  refine Sx.sv F (Sx.d_faddr (v := .pointer (some ⟨g1, 4, none⟩)) F rfl rfl (fa_86_2 _ 0 _)) (Sx.wanted_none rfl _) rfl (by decide) (fun A F => ?_)
  refine Sx.sv F (Sx.d_load1 (i := 2) (v := .bool true) one_4 F H rfl rfl rfl rfl) (Sx.wanted_none rfl _) rfl (by decide) (fun A F => ?_)
  refine Sx.nil ?_
  refine hK4 _ _ ?_
  refine Sx.condT F rfl ?_
  refine Sx.plain ?_
  refine Sx.sv F (Sx.d_move F (Or.inr rfl) rfl) (Sx.wanted_none rfl _) rfl (by decide) (fun A F => ?_)
  refine Sx.nil ?_
  refine hK3 _ _ ?_
  refine Sx.seq (fun K5 hK5 => ?_)
  refine Sx.plain ?_
  refine Sx.sv F (Sx.d_move F (Or.inl rfl) rfl) (Sx.wanted_none rfl _) rfl (by decide) (fun A F => ?_)
  refine Sx.sr (mk := fun v => v) F (Sx.d_litR (qs := #[(0, .int .i64 1)]) (cs := #[.int .i64 1]) (E := 3) (z := 1) F H rfl rfl (fun _ => by kernel_rfl) rfl (by decide)) (Sx.wanted_none rfl _) rfl (by decide) (fun v1 A w F (H : Sx.Own w0 _ [(true, g3, [.int .u64 ((Wd.hi 0#128).toNat), .int .u64 ((Wd.lo 0#128).toNat), .int .u32 0, .int .u32 0, .bool false]), (true, g2, [.int .u64 ((Wd.hi n).toNat), .int .u64 ((Wd.lo n).toNat)]), (true, g1, [.int .u64 ((Wd.hi dc).toNat), .int .u64 ((Wd.lo dc).toNat), .int .u32 k0.toNat, .int .u32 k1.toNat, .bool true])] [⟨true, v1, 3, 1, 1, [.int .i64 1]⟩]) => ?_)
  refine Sx.sv F (Sx.d_faddr (v := .pointer (some ⟨g1, 0, none⟩)) F rfl rfl (fa_86_0 _ 0 _)) (Sx.wanted_none rfl _) rfl (by decide) (fun A F => ?_)
  refine Sx.sv F (Sx.d_load (i := 2) (xs := [.int .u64 ((Wd.hi dc).toNat), .int .u64 ((Wd.lo dc).toNat)]) rw_31 F H rfl rfl rfl rfl rfl) (Sx.wanted_none rfl _) rfl (by decide) (fun A F => ?_)
  refine Sx.sr (mk := fun v => v) F (Sx.d_callR (vs := [.agg #[.int .u64 ((Wd.hi dc).toNat), .int .u64 ((Wd.lo dc).toNat)]]) (mk := fun v => v) if_65 F H rfl rfl (rlist_c dc _)) (Sx.wanted_none rfl _) rfl (by decide) (fun v2 A w F (H : Sx.Own w0 _ [(true, g3, [.int .u64 ((Wd.hi 0#128).toNat), .int .u64 ((Wd.lo 0#128).toNat), .int .u32 0, .int .u32 0, .bool false]), (true, g2, [.int .u64 ((Wd.hi n).toNat), .int .u64 ((Wd.lo n).toNat)]), (true, g1, [.int .u64 ((Wd.hi dc).toNat), .int .u64 ((Wd.lo dc).toNat), .int .u32 k0.toNat, .int .u32 k1.toNat, .bool true])] [⟨true, v2, 3, 1, 128, (Bi.bis (BitVec.getLsbD dc) 128)⟩, ⟨true, v1, 3, 1, 1, [.int .i64 1]⟩]) => ?_)
  refine Sx.sr (mk := fun v => v) F (Sx.d_appendR (i := 1) (j := 0) el_110 F H rfl rfl rfl rfl rfl (Bi.ones _ _) rfl (by omega) (by decide)) (Sx.wanted_none rfl _) rfl (by decide) (fun v3 A w F (H : Sx.Own w0 _ [(true, g3, [.int .u64 ((Wd.hi 0#128).toNat), .int .u64 ((Wd.lo 0#128).toNat), .int .u32 0, .int .u32 0, .bool false]), (true, g2, [.int .u64 ((Wd.hi n).toNat), .int .u64 ((Wd.lo n).toNat)]), (true, g1, [.int .u64 ((Wd.hi dc).toNat), .int .u64 ((Wd.lo dc).toNat), .int .u32 k0.toNat, .int .u32 k1.toNat, .bool true])] [⟨true, v2, 3, 1, 128, (Bi.bis (BitVec.getLsbD dc) 128)⟩, ⟨true, v3, 3, 1, 129, [.int .i64 1] ++ (Bi.bis (BitVec.getLsbD dc) 128)⟩]) => ?_)
  refine Sx.sv F (Sx.d_move F (Or.inr rfl) rfl) (Sx.wanted_none rfl _) rfl (by decide) (fun A F => ?_)
  refine Sx.nil ?_
  refine hK5 _ _ ?_
  refine Sx.seq (fun K6 hK6 => ?_)
  refine Sx.plain ?_
  refine Sx.sr (mk := fun v => v) F (Sx.d_litR (qs := #[]) (cs := #[]) (E := 3) (z := 1) F H rfl rfl (fun _ => by kernel_rfl) rfl (by decide)) (Sx.wanted_none rfl _) rfl (by decide) (fun v4 A w F (H : Sx.Own w0 _ [(true, g3, [.int .u64 ((Wd.hi 0#128).toNat), .int .u64 ((Wd.lo 0#128).toNat), .int .u32 0, .int .u32 0, .bool false]), (true, g2, [.int .u64 ((Wd.hi n).toNat), .int .u64 ((Wd.lo n).toNat)]), (true, g1, [.int .u64 ((Wd.hi dc).toNat), .int .u64 ((Wd.lo dc).toNat), .int .u32 k0.toNat, .int .u32 k1.toNat, .bool true])] [⟨true, v4, 3, 1, 0, []⟩, ⟨true, v2, 3, 1, 128, (Bi.bis (BitVec.getLsbD dc) 128)⟩, ⟨true, v3, 3, 1, 129, [.int .i64 1] ++ (Bi.bis (BitVec.getLsbD dc) 128)⟩]) => ?_)
  refine Sx.sv F (Sx.d_load (i := 1) (xs := [.int .u64 ((Wd.hi n).toNat), .int .u64 ((Wd.lo n).toNat)]) rw_31 F H rfl rfl rfl rfl rfl) (Sx.wanted_none rfl _) rfl (by decide) (fun A F => ?_)
  refine Sx.sr (mk := fun v => v) F (Sx.d_callR (vs := [.agg #[.int .u64 ((Wd.hi n).toNat), .int .u64 ((Wd.lo n).toNat)]]) (mk := fun v => v) if_65 F H rfl rfl (rlist_c n _)) (Sx.wanted_none rfl _) rfl (by decide) (fun v5 A w F (H : Sx.Own w0 _ [(true, g3, [.int .u64 ((Wd.hi 0#128).toNat), .int .u64 ((Wd.lo 0#128).toNat), .int .u32 0, .int .u32 0, .bool false]), (true, g2, [.int .u64 ((Wd.hi n).toNat), .int .u64 ((Wd.lo n).toNat)]), (true, g1, [.int .u64 ((Wd.hi dc).toNat), .int .u64 ((Wd.lo dc).toNat), .int .u32 k0.toNat, .int .u32 k1.toNat, .bool true])] [⟨true, v5, 3, 1, 128, (Bi.bis (BitVec.getLsbD n) 128)⟩, ⟨true, v4, 3, 1, 0, []⟩, ⟨true, v2, 3, 1, 128, (Bi.bis (BitVec.getLsbD dc) 128)⟩, ⟨true, v3, 3, 1, 129, [.int .i64 1] ++ (Bi.bis (BitVec.getLsbD dc) 128)⟩]) => ?_)
  refine Sx.sr (mk := fun v => v) F (Sx.d_appendR (i := 1) (j := 0) el_110 F H rfl rfl rfl rfl rfl (Bi.ones _ _) rfl (by omega) (by decide)) (Sx.wanted_none rfl _) rfl (by decide) (fun v6 A w F (H : Sx.Own w0 _ [(true, g3, [.int .u64 ((Wd.hi 0#128).toNat), .int .u64 ((Wd.lo 0#128).toNat), .int .u32 0, .int .u32 0, .bool false]), (true, g2, [.int .u64 ((Wd.hi n).toNat), .int .u64 ((Wd.lo n).toNat)]), (true, g1, [.int .u64 ((Wd.hi dc).toNat), .int .u64 ((Wd.lo dc).toNat), .int .u32 k0.toNat, .int .u32 k1.toNat, .bool true])] [⟨true, v5, 3, 1, 128, (Bi.bis (BitVec.getLsbD n) 128)⟩, ⟨true, v6, 3, 1, 128, [] ++ (Bi.bis (BitVec.getLsbD n) 128)⟩, ⟨true, v2, 3, 1, 128, (Bi.bis (BitVec.getLsbD dc) 128)⟩, ⟨true, v3, 3, 1, 129, [.int .i64 1] ++ (Bi.bis (BitVec.getLsbD dc) 128)⟩]) => ?_)
  refine Sx.sg (mk := fun g => .slice (some ⟨g, 0, none⟩) 1 1) F (Sx.d_lit (qs := #[(0, .int .i64 0)]) (cs := #[.int .i64 0]) (E := 3) F H rfl rfl (fun _ => by kernel_rfl)) (Sx.wanted_none rfl _) rfl (by decide) (fun g4 A w F (H : Sx.Own w0 _ [(true, g4, [.int .i64 0]), (true, g3, [.int .u64 ((Wd.hi 0#128).toNat), .int .u64 ((Wd.lo 0#128).toNat), .int .u32 0, .int .u32 0, .bool false]), (true, g2, [.int .u64 ((Wd.hi n).toNat), .int .u64 ((Wd.lo n).toNat)]), (true, g1, [.int .u64 ((Wd.hi dc).toNat), .int .u64 ((Wd.lo dc).toNat), .int .u32 k0.toNat, .int .u32 k1.toNat, .bool true])] [⟨true, v5, 3, 1, 128, (Bi.bis (BitVec.getLsbD n) 128)⟩, ⟨true, v6, 3, 1, 128, [] ++ (Bi.bis (BitVec.getLsbD n) 128)⟩, ⟨true, v2, 3, 1, 128, (Bi.bis (BitVec.getLsbD dc) 128)⟩, ⟨true, v3, 3, 1, 129, [.int .i64 1] ++ (Bi.bis (BitVec.getLsbD dc) 128)⟩]) => ?_)
  refine Sx.sr (mk := fun v => v) F (Sx.d_append (i := 1) (j := 0) el_110 F H rfl rfl rfl rfl rfl rfl rfl rfl (by omega) (by decide)) (Sx.wanted_none rfl _) rfl (by decide) (fun v7 A w F (H : Sx.Own w0 _ [(true, g4, [.int .i64 0]), (true, g3, [.int .u64 ((Wd.hi 0#128).toNat), .int .u64 ((Wd.lo 0#128).toNat), .int .u32 0, .int .u32 0, .bool false]), (true, g2, [.int .u64 ((Wd.hi n).toNat), .int .u64 ((Wd.lo n).toNat)]), (true, g1, [.int .u64 ((Wd.hi dc).toNat), .int .u64 ((Wd.lo dc).toNat), .int .u32 k0.toNat, .int .u32 k1.toNat, .bool true])] [⟨true, v5, 3, 1, 128, (Bi.bis (BitVec.getLsbD n) 128)⟩, ⟨true, v7, 3, 1, 129, [] ++ (Bi.bis (BitVec.getLsbD n) 128) ++ [.int .i64 0]⟩, ⟨true, v2, 3, 1, 128, (Bi.bis (BitVec.getLsbD dc) 128)⟩, ⟨true, v3, 3, 1, 129, [.int .i64 1] ++ (Bi.bis (BitVec.getLsbD dc) 128)⟩]) => ?_)
  refine Sx.sv F (Sx.d_move F (Or.inr rfl) rfl) (Sx.wanted_none rfl _) rfl (by decide) (fun A F => ?_)
  refine Sx.nil ?_
  refine hK6 _ _ ?_
  refine Sx.seq (fun K7 hK7 => ?_)
  refine Sx.plain ?_
  refine Sx.sv F (Sx.d_move F (Or.inl rfl) rfl) (Sx.wanted_none rfl _) rfl (by decide) (fun A F => ?_)
  refine Sx.sv F (Sx.d_move F (Or.inl rfl) rfl) (Sx.wanted_none rfl _) rfl (by decide) (fun A F => ?_)
  refine Sx.sr (mk := fun v => v) F (Sx.d_callR (vs := [v3, v7]) (mk := fun v => v) if_74 F H rfl rfl (rsum_c (BitVec.getLsbD (Hf.bigA dc true)) (BitVec.getLsbD (Hf.bigB n)) _ _ (m := 129) (by decide) _ (Bi.Rd.row (Sx.rowEq (H.row 3 _ rfl rfl) rfl rfl rfl rfl (Hf.rowA dc true)) (by decide)) (Bi.Rd.row (Sx.rowEq (H.row 1 _ rfl rfl) rfl rfl rfl rfl (Hf.rowB n)) (by decide)))) (Sx.wanted_none rfl _) rfl (by decide) (fun v8 A w F (H : Sx.Own w0 _ [(true, g4, [.int .i64 0]), (true, g3, [.int .u64 ((Wd.hi 0#128).toNat), .int .u64 ((Wd.lo 0#128).toNat), .int .u32 0, .int .u32 0, .bool false]), (true, g2, [.int .u64 ((Wd.hi n).toNat), .int .u64 ((Wd.lo n).toNat)]), (true, g1, [.int .u64 ((Wd.hi dc).toNat), .int .u64 ((Wd.lo dc).toNat), .int .u32 k0.toNat, .int .u32 k1.toNat, .bool true])] [⟨true, v8, 3, 1, 130, (Bi.bis (Bi.sumb (BitVec.getLsbD (Hf.bigA dc true)) (BitVec.getLsbD (Hf.bigB n)) 129) 130)⟩, ⟨true, v5, 3, 1, 128, (Bi.bis (BitVec.getLsbD n) 128)⟩, ⟨true, v7, 3, 1, 129, [] ++ (Bi.bis (BitVec.getLsbD n) 128) ++ [.int .i64 0]⟩, ⟨true, v2, 3, 1, 128, (Bi.bis (BitVec.getLsbD dc) 128)⟩, ⟨true, v3, 3, 1, 129, [.int .i64 1] ++ (Bi.bis (BitVec.getLsbD dc) 128)⟩]) => ?_)
  refine Sx.sv F (Sx.d_move F (Or.inr rfl) rfl) (Sx.wanted_none rfl _) rfl (by decide) (fun A F => ?_)
  refine Sx.nil ?_
  obtain ⟨lg, lc, rfl, hc1, hc2⟩ := H.open (i := 0) rfl (by omega)
  replace H : Sx.Own w0 w [(true, g4, [.int .i64 0]), (true, g3, [.int .u64 ((Wd.hi 0#128).toNat), .int .u64 ((Wd.lo 0#128).toNat), .int .u32 0, .int .u32 0, .bool false]), (true, g2, [.int .u64 ((Wd.hi n).toNat), .int .u64 ((Wd.lo n).toNat)]), (true, g1, [.int .u64 ((Wd.hi dc).toNat), .int .u64 ((Wd.lo dc).toNat), .int .u32 k0.toNat, .int .u32 k1.toNat, .bool true])] [⟨true, .slice (some ⟨lg, 0, none⟩) 130 lc, 3, 1, 130, (Bi.bis (Hf.sumf dc true n) 130)⟩] := H.to' [0, 1, 2, 3] [0] (by decide) (by decide) rfl rfl
  refine hK7 _ _ ?_
  refine Sx.seq (fun K8 hK8 => ?_)
  have F := Sx.Fr.to F (kv' := [(0, .agg #[.int .u64 ((Wd.hi dc).toNat), .int .u64 ((Wd.lo dc).toNat), .int .u32 k0.toNat, .int .u32 k1.toNat, .bool true]), (1, .agg #[.int .u64 ((Wd.hi n).toNat), .int .u64 ((Wd.lo n).toNat)]), (2, .pointer (some ⟨g1, 0, none⟩)), (3, .pointer (some ⟨g2, 0, none⟩)), (4, .pointer (some ⟨g3, 0, none⟩)), (5, .int .i64 1), (9, .pointer (some ⟨g1, 4, none⟩)), (10, .bool true), (11, .int .i64 1), (12, v1), (13, .pointer (some ⟨g1, 0, none⟩)), (14, .agg #[.int .u64 ((Wd.hi dc).toNat), .int .u64 ((Wd.lo dc).toNat)]), (15, v2), (16, v3), (6, v3), (17, v4), (18, .agg #[.int .u64 ((Wd.hi n).toNat), .int .u64 ((Wd.lo n).toNat)]), (19, v5), (20, v6), (21, .slice (some ⟨g4, 0, none⟩) 1 1), (22, v7), (7, v7), (23, v3), (24, v7), (25, .slice (some ⟨lg, 0, none⟩) 130 lc), (8, .slice (some ⟨lg, 0, none⟩) 130 lc)]) ⟨rfl, rfl, rfl, rfl, rfl, rfl, rfl, rfl, rfl, rfl, rfl, rfl, rfl, rfl, rfl, rfl, rfl, rfl, rfl, rfl, rfl, rfl, rfl, rfl, rfl, rfl, trivial⟩
  refine Sx.drawn F (by kernel_rfl) (by kernel_rfl) (by kernel_rfl) [some (.slice (some ⟨lg, 0, none⟩) 130 lc), some (.slice (some ⟨lg, 1, none⟩) 128 (lc - 1)), some (.agg #[.int .u64 ((Wd.hi (Bi.of (Hf.farb dc true n) 128)).toNat), .int .u64 ((Wd.lo (Bi.of (Hf.farb dc true n) 128)).toNat)]), some (.pointer (some ⟨g1, 2, none⟩)), some (.agg #[.int .u32 k0.toNat, .int .u32 k1.toNat]), some (.slice (some ⟨lg, 0, none⟩) 130 lc), some (.pointer (some ⟨lg, 0, none⟩)), some (.int .i64 (((Hf.sumf dc true n) 0).toNat)), some (.bool ((((Hf.sumf dc true n) 0).toNat : Int) == 1)), some (.agg #[.int .u64 ((Wd.hi (Bi.of (Hf.farb dc true n) 128)).toNat), .int .u64 ((Wd.lo (Bi.of (Hf.farb dc true n) 128)).toNat), .int .u32 k0.toNat, .int .u32 k1.toNat, .bool ((((Hf.sumf dc true n) 0).toNat : Int) == 1)]), none] (fun L A w => Sx.Own w0 w [(true, g4, [.int .i64 0]), (true, g3, (cond (L 10) [.int .u64 ((Wd.hi (Bi.of (Hf.farb dc true n) 128)).toNat), .int .u64 ((Wd.lo (Bi.of (Hf.farb dc true n) 128)).toNat), .int .u32 k0.toNat, .int .u32 k1.toNat, .bool ((((Hf.sumf dc true n) 0).toNat : Int) == 1)] [.int .u64 ((Wd.hi 0#128).toNat), .int .u64 ((Wd.lo 0#128).toNat), .int .u32 0, .int .u32 0, .bool false])), (true, g2, [.int .u64 ((Wd.hi n).toNat), .int .u64 ((Wd.lo n).toNat)]), (true, g1, [.int .u64 ((Wd.hi dc).toNat), .int .u64 ((Wd.lo dc).toNat), .int .u32 k0.toNat, .int .u32 k1.toNat, .bool true])] [⟨true, .slice (some ⟨lg, 0, none⟩) 130 lc, 3, 1, 130, (Bi.bis (Hf.sumf dc true n) 130)⟩]) H.drew ?_ ?_
  · refine ⟨?_, ?_, ?_, ?_, ?_, ?_, ?_, ?_, ?_, ?_, ?_, trivial⟩
    · show Sx.StepAt _ _ _ _ _ _ _ 0
      intro L A w up hun hd F H
      have f10 : L 10 = false := up 10 0 rfl hun
      rw [f10] at H
      have F := Sx.Fr.to F (kv' := [(8, .slice (some ⟨lg, 0, none⟩) 130 lc)]) ⟨rfl, trivial⟩
      refine Sx.step_on rfl (Sx.d_move F (Or.inl rfl) rfl) ?_
      rintro xv w' ⟨hx, rfl⟩
      exact ⟨(fun cv hc => hx.trans (Option.some.inj (Option.some.inj hc))), (by show Sx.Own _ _ _ _; rw [show Inv.add L 0 10 = false from f10]; exact H)⟩
    · show Sx.StepAt _ _ _ _ _ _ _ 1
      intro L A w up hun hd F H
      have f10 : L 10 = false := up 10 1 rfl hun
      rw [f10] at H
      have F := Sx.Fr.to F (kv' := [(26, .slice (some ⟨lg, 0, none⟩) 130 lc)]) ⟨rfl, trivial⟩
      refine Sx.step_on rfl (Sx.d_sliceLH (l := 1) (h := 129) el_110 F rfl rfl rfl rfl rfl rfl (by decide) (by omega) (by omega) rfl rfl rfl) ?_
      rintro xv w' ⟨hx, rfl⟩
      exact ⟨(fun cv hc => hx.trans (Option.some.inj (Option.some.inj hc))), (by show Sx.Own _ _ _ _; rw [show Inv.add L 1 10 = false from f10]; exact H)⟩
    · show Sx.StepAt _ _ _ _ _ _ _ 2
      intro L A w up hun hd F H
      have f10 : L 10 = false := up 10 2 rfl hun
      rw [f10] at H
      have F := Sx.Fr.to F (kv' := [(27, .slice (some ⟨lg, 1, none⟩) 128 (lc - 1))]) ⟨rfl, trivial⟩
      refine Sx.step_on rfl (Sx.d_call (vs := [.slice (some ⟨lg, 1, none⟩) 128 (lc - 1)]) (v := .agg #[.int .u64 ((Wd.hi (Bi.of (Hf.farb dc true n) 128)).toNat), .int .u64 ((Wd.lo (Bi.of (Hf.farb dc true n) 128)).toNat)]) if_75 F H rfl rfl (rof_c (Hf.farb dc true n) _ _ _ (Bi.Rd.congr (Bi.Rd.part (f := Hf.sumf dc true n) (Bi.Rd.row (H.row 0 _ rfl rfl) (by decide)) 1 128 (by decide) _ 1 rfl) (Hf.far_at dc true n)))) ?_
      rintro xv w' ⟨hx, H⟩
      exact ⟨(fun cv hc => hx.trans (Option.some.inj (Option.some.inj hc))), (by show Sx.Own _ _ _ _; rw [show Inv.add L 2 10 = false from f10]; exact H)⟩
    · show Sx.StepAt _ _ _ _ _ _ _ 3
      intro L A w up hun hd F H
      have f10 : L 10 = false := up 10 3 rfl hun
      rw [f10] at H
      have F := Sx.Fr.to F (kv' := [(2, .pointer (some ⟨g1, 0, none⟩))]) ⟨rfl, trivial⟩
      refine Sx.step_on rfl (Sx.d_faddr (v := .pointer (some ⟨g1, 2, none⟩)) F rfl rfl (fa_86_1 _ 0 _)) ?_
      rintro xv w' ⟨hx, rfl⟩
      exact ⟨(fun cv hc => hx.trans (Option.some.inj (Option.some.inj hc))), (by show Sx.Own _ _ _ _; rw [show Inv.add L 3 10 = false from f10]; exact H)⟩
    · show Sx.StepAt _ _ _ _ _ _ _ 4
      intro L A w up hun hd F H
      have f10 : L 10 = false := up 10 4 rfl hun
      rw [f10] at H
      have F := Sx.Fr.to F (kv' := [(29, .pointer (some ⟨g1, 2, none⟩))]) ⟨rfl, trivial⟩
      refine Sx.step_on rfl (Sx.d_load (i := 3) (xs := [.int .u32 k0.toNat, .int .u32 k1.toNat]) rw_79 F H rfl rfl rfl rfl rfl) ?_
      rintro xv w' ⟨hx, rfl⟩
      exact ⟨(fun cv hc => hx.trans (Option.some.inj (Option.some.inj hc))), (by show Sx.Own _ _ _ _; rw [show Inv.add L 4 10 = false from f10]; exact H)⟩
    · show Sx.StepAt _ _ _ _ _ _ _ 5
      intro L A w up hun hd F H
      have f10 : L 10 = false := up 10 5 rfl hun
      rw [f10] at H
      have F := Sx.Fr.to F (kv' := [(8, .slice (some ⟨lg, 0, none⟩) 130 lc)]) ⟨rfl, trivial⟩
      refine Sx.step_on rfl (Sx.d_move F (Or.inl rfl) rfl) ?_
      rintro xv w' ⟨hx, rfl⟩
      exact ⟨(fun cv hc => hx.trans (Option.some.inj (Option.some.inj hc))), (by show Sx.Own _ _ _ _; rw [show Inv.add L 5 10 = false from f10]; exact H)⟩
    · show Sx.StepAt _ _ _ _ _ _ _ 6
      intro L A w up hun hd F H
      have f10 : L 10 = false := up 10 6 rfl hun
      rw [f10] at H
      have F := Sx.Fr.to F (kv' := [(31, .slice (some ⟨lg, 0, none⟩) 130 lc)]) ⟨rfl, trivial⟩
      refine Sx.step_on rfl (Sx.d_ixR (k := 0) el_110 F rfl rfl rfl (rfl) (by omega)) ?_
      rintro xv w' ⟨hx, rfl⟩
      exact ⟨(fun cv hc => hx.trans (Option.some.inj (Option.some.inj hc))), (by show Sx.Own _ _ _ _; rw [show Inv.add L 6 10 = false from f10]; exact H)⟩
    · show Sx.StepAt _ _ _ _ _ _ _ 7
      intro L A w up hun hd F H
      have f10 : L 10 = false := up 10 7 rfl hun
      rw [f10] at H
      have F := Sx.Fr.to F (kv' := [(32, .pointer (some ⟨lg, 0, none⟩))]) ⟨rfl, trivial⟩
      refine Sx.step_on rfl (Sx.d_loadR (i := 0) (v := .int .i64 (((Hf.sumf dc true n) 0).toNat)) one_3 F H rfl rfl rfl (Bi.at_ _ _ _ (by omega))) ?_
      rintro xv w' ⟨hx, rfl⟩
      exact ⟨(fun cv hc => hx.trans (Option.some.inj (Option.some.inj hc))), (by show Sx.Own _ _ _ _; rw [show Inv.add L 7 10 = false from f10]; exact H)⟩
    · show Sx.StepAt _ _ _ _ _ _ _ 8
      intro L A w up hun hd F H
      have f10 : L 10 = false := up 10 8 rfl hun
      rw [f10] at H
      have F := Sx.Fr.to F (kv' := [(33, .int .i64 (((Hf.sumf dc true n) 0).toNat))]) ⟨rfl, trivial⟩
      refine Sx.step_on rfl (Sx.d_bin (v := .bool ((((Hf.sumf dc true n) 0).toNat : Int) == 1)) F rfl rfl rfl (Sx.i_eq rfl)) ?_
      rintro xv w' ⟨hx, rfl⟩
      exact ⟨(fun cv hc => hx.trans (Option.some.inj (Option.some.inj hc))), (by show Sx.Own _ _ _ _; rw [show Inv.add L 8 10 = false from f10]; exact H)⟩
    · show Sx.StepAt _ _ _ _ _ _ _ 9
      intro L A w up hun hd F H
      have f10 : L 10 = false := up 10 9 rfl hun
      rw [f10] at H
      have F := Sx.Fr.to F (kv' := [(28, .agg #[.int .u64 ((Wd.hi (Bi.of (Hf.farb dc true n) 128)).toNat), .int .u64 ((Wd.lo (Bi.of (Hf.farb dc true n) 128)).toNat)]), (30, .agg #[.int .u32 k0.toNat, .int .u32 k1.toNat]), (34, .bool ((((Hf.sumf dc true n) 0).toNat : Int) == 1))]) ⟨rfl, rfl, rfl, trivial⟩
      refine Sx.step_on rfl (Sx.d_build (qs := #[(0, .agg #[.int .u64 ((Wd.hi (Bi.of (Hf.farb dc true n) 128)).toNat), .int .u64 ((Wd.lo (Bi.of (Hf.farb dc true n) 128)).toNat)]), (1, .agg #[.int .u32 k0.toNat, .int .u32 k1.toNat]), (2, .bool ((((Hf.sumf dc true n) 0).toNat : Int) == 1))]) (v := .agg #[.int .u64 ((Wd.hi (Bi.of (Hf.farb dc true n) 128)).toNat), .int .u64 ((Wd.lo (Bi.of (Hf.farb dc true n) 128)).toNat), .int .u32 k0.toNat, .int .u32 k1.toNat, .bool ((((Hf.sumf dc true n) 0).toNat : Int) == 1)]) F rfl rfl (by kernel_rfl)) ?_
      rintro xv w' ⟨hx, rfl⟩
      exact ⟨(fun cv hc => hx.trans (Option.some.inj (Option.some.inj hc))), (by show Sx.Own _ _ _ _; rw [show Inv.add L 9 10 = false from f10]; exact H)⟩
    · show Sx.StepAt _ _ _ _ _ _ _ 10
      intro L A w up hun hd F H
      have f10 : L 10 = false := hun
      rw [f10] at H
      have F := Sx.Fr.to F (kv' := [(4, .pointer (some ⟨g3, 0, none⟩)), (35, .agg #[.int .u64 ((Wd.hi (Bi.of (Hf.farb dc true n) 128)).toNat), .int .u64 ((Wd.lo (Bi.of (Hf.farb dc true n) 128)).toNat), .int .u32 k0.toNat, .int .u32 k1.toNat, .bool ((((Hf.sumf dc true n) 0).toNat : Int) == 1)])]) ⟨rfl, rfl, trivial⟩
      refine Sx.step_on rfl (Sx.d_store (i := 1) (xs := [.int .u64 ((Wd.hi (Bi.of (Hf.farb dc true n) 128)).toNat), .int .u64 ((Wd.lo (Bi.of (Hf.farb dc true n) 128)).toNat), .int .u32 k0.toNat, .int .u32 k1.toNat, .bool ((((Hf.sumf dc true n) 0).toNat : Int) == 1)]) (us := [.int .u64 ((Wd.hi (Bi.of (Hf.farb dc true n) 128)).toNat), .int .u64 ((Wd.lo (Bi.of (Hf.farb dc true n) 128)).toNat), .int .u32 k0.toNat, .int .u32 k1.toNat, .bool ((((Hf.sumf dc true n) 0).toNat : Int) == 1)]) sz_86 F H rfl rfl rfl rfl rfl rfl rfl (Nat.le_of_ble_eq_true rfl) rfl) ?_
      intro xv w' H
      exact ⟨(fun cv hc => by have h := Option.some.inj hc; cases h), H⟩
  · intro L A w hL F H
    have t10 : L 10 = true := hL 10 rfl
    rw [t10] at H
    have F := Sx.Fr.to F (kv' := [(4, .pointer (some ⟨g3, 0, none⟩))]) ⟨rfl, trivial⟩
    refine hK8 _ _ ?_
    refine wp_ret ?_
    try dsimp only [Exit.then, Exit.inBlock, Exit.jump]
    refine Sx.ret1 F Try.results53 (Sx.res_row (i := 1) (xs := [.int .u64 ((Wd.hi (Bi.of (Hf.farb dc true n) 128)).toNat), .int .u64 ((Wd.lo (Bi.of (Hf.farb dc true n) 128)).toNat), .int .u32 k0.toNat, .int .u32 k1.toNat, .bool ((((Hf.sumf dc true n) 0).toNat : Int) == 1)]) rw_86 F H rfl rfl rfl rfl) ⟨?_, H.below⟩
    rw [← Hf.far_eq dc k0 k1 true n]
set_option maxRecDepth 100000 in
theorem rfar12_f (dc : BitVec 128) (k0 k1 : BitVec 32) (n : BitVec 128) (w0 : World) : Calls Try.prog 53 #[.agg #[.int .u64 ((Wd.hi dc).toNat), .int .u64 ((Wd.lo dc).toNat), .int .u32 k0.toNat, .int .u32 k1.toNat, .bool false], .agg #[.int .u64 ((Wd.hi n).toNat), .int .u64 ((Wd.lo n).toNat)]] w0 fun e w' => e = .returned (.agg #[.int .u64 ((Wd.hi ((Hf.jump ⟨dc, k0, k1, false⟩ n).c)).toNat), .int .u64 ((Wd.lo ((Hf.jump ⟨dc, k0, k1, false⟩ n).c)).toNat), .int .u32 (((Hf.jump ⟨dc, k0, k1, false⟩ n).k0).toNat), .int .u32 (((Hf.jump ⟨dc, k0, k1, false⟩ n).k1).toNat), .bool ((Hf.jump ⟨dc, k0, k1, false⟩ n).b)]) ∧ Below w0.heap.size w0 w' := by
  refine Sx.enter (args := [.agg #[.int .u64 ((Wd.hi dc).toNat), .int .u64 ((Wd.lo dc).toNat), .int .u32 k0.toNat, .int .u32 k1.toNat, .bool false], .agg #[.int .u64 ((Wd.hi n).toNat), .int .u64 ((Wd.lo n).toNat)]]) Try.func53 rfl Try.ntmps53 (Nat.le_of_ble_eq_true rfl) (fun A F => ?_)
  have H := Sx.Own.start w0
  refine Sx.seq (fun K1 hK1 => ?_)
  refine Sx.plain ?_
  refine Sx.sb F (Sx.d_box F H rfl rfl [.int .u64 ((Wd.hi dc).toNat), .int .u64 ((Wd.lo dc).toNat), .int .u32 k0.toNat, .int .u32 k1.toNat, .bool false] rfl) (Sx.wanted_none rfl _) rfl (by decide) (fun g1 A w F H => ?_)
  refine Sx.sb F (Sx.d_box F H rfl rfl [.int .u64 ((Wd.hi n).toNat), .int .u64 ((Wd.lo n).toNat)] rfl) (Sx.wanted_none rfl _) rfl (by decide) (fun g2 A w F H => ?_)
  refine Sx.sb F (Sx.d_alloc H rfl [.int .u64 ((Wd.hi 0#128).toNat), .int .u64 ((Wd.lo 0#128).toNat), .int .u32 0, .int .u32 0, .bool false] zero_86) (Sx.wanted_none rfl _) rfl (by decide) (fun g3 A w F H => ?_)
  refine Sx.nil ?_
  refine hK1 _ _ ?_
  refine Sx.seq (fun K2 hK2 => ?_)
  refine Sx.plain ?_
  refine Sx.sv F (Sx.d_move F (Or.inr rfl) rfl) (Sx.wanted_none rfl _) rfl (by decide) (fun A F => ?_)
  refine Sx.nil ?_
  refine hK2 _ _ ?_
  refine Sx.seq (fun K3 hK3 => ?_)
  refine Sx.seq (fun K4 hK4 => ?_)
  refine Sx.plain ?_
  refine Sx.sv F (Sx.d_faddr (v := .pointer (some ⟨g1, 4, none⟩)) F rfl rfl (fa_86_2 _ 0 _)) (Sx.wanted_none rfl _) rfl (by decide) (fun A F => ?_)
  refine Sx.sv F (Sx.d_load1 (i := 2) (v := .bool false) one_4 F H rfl rfl rfl rfl) (Sx.wanted_none rfl _) rfl (by decide) (fun A F => ?_)
  refine Sx.nil ?_
  refine hK4 _ _ ?_
  refine Sx.condF F rfl ?_
  refine wp_skip ?_
  refine hK3 _ _ ?_
  refine Sx.seq (fun K5 hK5 => ?_)
  refine Sx.plain ?_
  refine Sx.sv F (Sx.d_move F (Or.inl rfl) rfl) (Sx.wanted_none rfl _) rfl (by decide) (fun A F => ?_)
  refine Sx.sr (mk := fun v => v) F (Sx.d_litR (qs := #[(0, .int .i64 0)]) (cs := #[.int .i64 0]) (E := 3) (z := 1) F H rfl rfl (fun _ => by kernel_rfl) rfl (by decide)) (Sx.wanted_none rfl _) rfl (by decide) (fun v1 A w F (H : Sx.Own w0 _ [(true, g3, [.int .u64 ((Wd.hi 0#128).toNat), .int .u64 ((Wd.lo 0#128).toNat), .int .u32 0, .int .u32 0, .bool false]), (true, g2, [.int .u64 ((Wd.hi n).toNat), .int .u64 ((Wd.lo n).toNat)]), (true, g1, [.int .u64 ((Wd.hi dc).toNat), .int .u64 ((Wd.lo dc).toNat), .int .u32 k0.toNat, .int .u32 k1.toNat, .bool false])] [⟨true, v1, 3, 1, 1, [.int .i64 0]⟩]) => ?_)
  refine Sx.sv F (Sx.d_faddr (v := .pointer (some ⟨g1, 0, none⟩)) F rfl rfl (fa_86_0 _ 0 _)) (Sx.wanted_none rfl _) rfl (by decide) (fun A F => ?_)
  refine Sx.sv F (Sx.d_load (i := 2) (xs := [.int .u64 ((Wd.hi dc).toNat), .int .u64 ((Wd.lo dc).toNat)]) rw_31 F H rfl rfl rfl rfl rfl) (Sx.wanted_none rfl _) rfl (by decide) (fun A F => ?_)
  refine Sx.sr (mk := fun v => v) F (Sx.d_callR (vs := [.agg #[.int .u64 ((Wd.hi dc).toNat), .int .u64 ((Wd.lo dc).toNat)]]) (mk := fun v => v) if_65 F H rfl rfl (rlist_c dc _)) (Sx.wanted_none rfl _) rfl (by decide) (fun v2 A w F (H : Sx.Own w0 _ [(true, g3, [.int .u64 ((Wd.hi 0#128).toNat), .int .u64 ((Wd.lo 0#128).toNat), .int .u32 0, .int .u32 0, .bool false]), (true, g2, [.int .u64 ((Wd.hi n).toNat), .int .u64 ((Wd.lo n).toNat)]), (true, g1, [.int .u64 ((Wd.hi dc).toNat), .int .u64 ((Wd.lo dc).toNat), .int .u32 k0.toNat, .int .u32 k1.toNat, .bool false])] [⟨true, v2, 3, 1, 128, (Bi.bis (BitVec.getLsbD dc) 128)⟩, ⟨true, v1, 3, 1, 1, [.int .i64 0]⟩]) => ?_)
  refine Sx.sr (mk := fun v => v) F (Sx.d_appendR (i := 1) (j := 0) el_110 F H rfl rfl rfl rfl rfl (Bi.ones _ _) rfl (by omega) (by decide)) (Sx.wanted_none rfl _) rfl (by decide) (fun v3 A w F (H : Sx.Own w0 _ [(true, g3, [.int .u64 ((Wd.hi 0#128).toNat), .int .u64 ((Wd.lo 0#128).toNat), .int .u32 0, .int .u32 0, .bool false]), (true, g2, [.int .u64 ((Wd.hi n).toNat), .int .u64 ((Wd.lo n).toNat)]), (true, g1, [.int .u64 ((Wd.hi dc).toNat), .int .u64 ((Wd.lo dc).toNat), .int .u32 k0.toNat, .int .u32 k1.toNat, .bool false])] [⟨true, v2, 3, 1, 128, (Bi.bis (BitVec.getLsbD dc) 128)⟩, ⟨true, v3, 3, 1, 129, [.int .i64 0] ++ (Bi.bis (BitVec.getLsbD dc) 128)⟩]) => ?_)
  refine Sx.sv F (Sx.d_move F (Or.inr rfl) rfl) (Sx.wanted_none rfl _) rfl (by decide) (fun A F => ?_)
  refine Sx.nil ?_
  refine hK5 _ _ ?_
  refine Sx.seq (fun K6 hK6 => ?_)
  refine Sx.plain ?_
  refine Sx.sr (mk := fun v => v) F (Sx.d_litR (qs := #[]) (cs := #[]) (E := 3) (z := 1) F H rfl rfl (fun _ => by kernel_rfl) rfl (by decide)) (Sx.wanted_none rfl _) rfl (by decide) (fun v4 A w F (H : Sx.Own w0 _ [(true, g3, [.int .u64 ((Wd.hi 0#128).toNat), .int .u64 ((Wd.lo 0#128).toNat), .int .u32 0, .int .u32 0, .bool false]), (true, g2, [.int .u64 ((Wd.hi n).toNat), .int .u64 ((Wd.lo n).toNat)]), (true, g1, [.int .u64 ((Wd.hi dc).toNat), .int .u64 ((Wd.lo dc).toNat), .int .u32 k0.toNat, .int .u32 k1.toNat, .bool false])] [⟨true, v4, 3, 1, 0, []⟩, ⟨true, v2, 3, 1, 128, (Bi.bis (BitVec.getLsbD dc) 128)⟩, ⟨true, v3, 3, 1, 129, [.int .i64 0] ++ (Bi.bis (BitVec.getLsbD dc) 128)⟩]) => ?_)
  refine Sx.sv F (Sx.d_load (i := 1) (xs := [.int .u64 ((Wd.hi n).toNat), .int .u64 ((Wd.lo n).toNat)]) rw_31 F H rfl rfl rfl rfl rfl) (Sx.wanted_none rfl _) rfl (by decide) (fun A F => ?_)
  refine Sx.sr (mk := fun v => v) F (Sx.d_callR (vs := [.agg #[.int .u64 ((Wd.hi n).toNat), .int .u64 ((Wd.lo n).toNat)]]) (mk := fun v => v) if_65 F H rfl rfl (rlist_c n _)) (Sx.wanted_none rfl _) rfl (by decide) (fun v5 A w F (H : Sx.Own w0 _ [(true, g3, [.int .u64 ((Wd.hi 0#128).toNat), .int .u64 ((Wd.lo 0#128).toNat), .int .u32 0, .int .u32 0, .bool false]), (true, g2, [.int .u64 ((Wd.hi n).toNat), .int .u64 ((Wd.lo n).toNat)]), (true, g1, [.int .u64 ((Wd.hi dc).toNat), .int .u64 ((Wd.lo dc).toNat), .int .u32 k0.toNat, .int .u32 k1.toNat, .bool false])] [⟨true, v5, 3, 1, 128, (Bi.bis (BitVec.getLsbD n) 128)⟩, ⟨true, v4, 3, 1, 0, []⟩, ⟨true, v2, 3, 1, 128, (Bi.bis (BitVec.getLsbD dc) 128)⟩, ⟨true, v3, 3, 1, 129, [.int .i64 0] ++ (Bi.bis (BitVec.getLsbD dc) 128)⟩]) => ?_)
  refine Sx.sr (mk := fun v => v) F (Sx.d_appendR (i := 1) (j := 0) el_110 F H rfl rfl rfl rfl rfl (Bi.ones _ _) rfl (by omega) (by decide)) (Sx.wanted_none rfl _) rfl (by decide) (fun v6 A w F (H : Sx.Own w0 _ [(true, g3, [.int .u64 ((Wd.hi 0#128).toNat), .int .u64 ((Wd.lo 0#128).toNat), .int .u32 0, .int .u32 0, .bool false]), (true, g2, [.int .u64 ((Wd.hi n).toNat), .int .u64 ((Wd.lo n).toNat)]), (true, g1, [.int .u64 ((Wd.hi dc).toNat), .int .u64 ((Wd.lo dc).toNat), .int .u32 k0.toNat, .int .u32 k1.toNat, .bool false])] [⟨true, v5, 3, 1, 128, (Bi.bis (BitVec.getLsbD n) 128)⟩, ⟨true, v6, 3, 1, 128, [] ++ (Bi.bis (BitVec.getLsbD n) 128)⟩, ⟨true, v2, 3, 1, 128, (Bi.bis (BitVec.getLsbD dc) 128)⟩, ⟨true, v3, 3, 1, 129, [.int .i64 0] ++ (Bi.bis (BitVec.getLsbD dc) 128)⟩]) => ?_)
  refine Sx.sg (mk := fun g => .slice (some ⟨g, 0, none⟩) 1 1) F (Sx.d_lit (qs := #[(0, .int .i64 0)]) (cs := #[.int .i64 0]) (E := 3) F H rfl rfl (fun _ => by kernel_rfl)) (Sx.wanted_none rfl _) rfl (by decide) (fun g4 A w F (H : Sx.Own w0 _ [(true, g4, [.int .i64 0]), (true, g3, [.int .u64 ((Wd.hi 0#128).toNat), .int .u64 ((Wd.lo 0#128).toNat), .int .u32 0, .int .u32 0, .bool false]), (true, g2, [.int .u64 ((Wd.hi n).toNat), .int .u64 ((Wd.lo n).toNat)]), (true, g1, [.int .u64 ((Wd.hi dc).toNat), .int .u64 ((Wd.lo dc).toNat), .int .u32 k0.toNat, .int .u32 k1.toNat, .bool false])] [⟨true, v5, 3, 1, 128, (Bi.bis (BitVec.getLsbD n) 128)⟩, ⟨true, v6, 3, 1, 128, [] ++ (Bi.bis (BitVec.getLsbD n) 128)⟩, ⟨true, v2, 3, 1, 128, (Bi.bis (BitVec.getLsbD dc) 128)⟩, ⟨true, v3, 3, 1, 129, [.int .i64 0] ++ (Bi.bis (BitVec.getLsbD dc) 128)⟩]) => ?_)
  refine Sx.sr (mk := fun v => v) F (Sx.d_append (i := 1) (j := 0) el_110 F H rfl rfl rfl rfl rfl rfl rfl rfl (by omega) (by decide)) (Sx.wanted_none rfl _) rfl (by decide) (fun v7 A w F (H : Sx.Own w0 _ [(true, g4, [.int .i64 0]), (true, g3, [.int .u64 ((Wd.hi 0#128).toNat), .int .u64 ((Wd.lo 0#128).toNat), .int .u32 0, .int .u32 0, .bool false]), (true, g2, [.int .u64 ((Wd.hi n).toNat), .int .u64 ((Wd.lo n).toNat)]), (true, g1, [.int .u64 ((Wd.hi dc).toNat), .int .u64 ((Wd.lo dc).toNat), .int .u32 k0.toNat, .int .u32 k1.toNat, .bool false])] [⟨true, v5, 3, 1, 128, (Bi.bis (BitVec.getLsbD n) 128)⟩, ⟨true, v7, 3, 1, 129, [] ++ (Bi.bis (BitVec.getLsbD n) 128) ++ [.int .i64 0]⟩, ⟨true, v2, 3, 1, 128, (Bi.bis (BitVec.getLsbD dc) 128)⟩, ⟨true, v3, 3, 1, 129, [.int .i64 0] ++ (Bi.bis (BitVec.getLsbD dc) 128)⟩]) => ?_)
  refine Sx.sv F (Sx.d_move F (Or.inr rfl) rfl) (Sx.wanted_none rfl _) rfl (by decide) (fun A F => ?_)
  refine Sx.nil ?_
  refine hK6 _ _ ?_
  refine Sx.seq (fun K7 hK7 => ?_)
  refine Sx.plain ?_
  refine Sx.sv F (Sx.d_move F (Or.inl rfl) rfl) (Sx.wanted_none rfl _) rfl (by decide) (fun A F => ?_)
  refine Sx.sv F (Sx.d_move F (Or.inl rfl) rfl) (Sx.wanted_none rfl _) rfl (by decide) (fun A F => ?_)
  refine Sx.sr (mk := fun v => v) F (Sx.d_callR (vs := [v3, v7]) (mk := fun v => v) if_74 F H rfl rfl (rsum_c (BitVec.getLsbD (Hf.bigA dc false)) (BitVec.getLsbD (Hf.bigB n)) _ _ (m := 129) (by decide) _ (Bi.Rd.row (Sx.rowEq (H.row 3 _ rfl rfl) rfl rfl rfl rfl (Hf.rowA dc false)) (by decide)) (Bi.Rd.row (Sx.rowEq (H.row 1 _ rfl rfl) rfl rfl rfl rfl (Hf.rowB n)) (by decide)))) (Sx.wanted_none rfl _) rfl (by decide) (fun v8 A w F (H : Sx.Own w0 _ [(true, g4, [.int .i64 0]), (true, g3, [.int .u64 ((Wd.hi 0#128).toNat), .int .u64 ((Wd.lo 0#128).toNat), .int .u32 0, .int .u32 0, .bool false]), (true, g2, [.int .u64 ((Wd.hi n).toNat), .int .u64 ((Wd.lo n).toNat)]), (true, g1, [.int .u64 ((Wd.hi dc).toNat), .int .u64 ((Wd.lo dc).toNat), .int .u32 k0.toNat, .int .u32 k1.toNat, .bool false])] [⟨true, v8, 3, 1, 130, (Bi.bis (Bi.sumb (BitVec.getLsbD (Hf.bigA dc false)) (BitVec.getLsbD (Hf.bigB n)) 129) 130)⟩, ⟨true, v5, 3, 1, 128, (Bi.bis (BitVec.getLsbD n) 128)⟩, ⟨true, v7, 3, 1, 129, [] ++ (Bi.bis (BitVec.getLsbD n) 128) ++ [.int .i64 0]⟩, ⟨true, v2, 3, 1, 128, (Bi.bis (BitVec.getLsbD dc) 128)⟩, ⟨true, v3, 3, 1, 129, [.int .i64 0] ++ (Bi.bis (BitVec.getLsbD dc) 128)⟩]) => ?_)
  refine Sx.sv F (Sx.d_move F (Or.inr rfl) rfl) (Sx.wanted_none rfl _) rfl (by decide) (fun A F => ?_)
  refine Sx.nil ?_
  obtain ⟨lg, lc, rfl, hc1, hc2⟩ := H.open (i := 0) rfl (by omega)
  replace H : Sx.Own w0 w [(true, g4, [.int .i64 0]), (true, g3, [.int .u64 ((Wd.hi 0#128).toNat), .int .u64 ((Wd.lo 0#128).toNat), .int .u32 0, .int .u32 0, .bool false]), (true, g2, [.int .u64 ((Wd.hi n).toNat), .int .u64 ((Wd.lo n).toNat)]), (true, g1, [.int .u64 ((Wd.hi dc).toNat), .int .u64 ((Wd.lo dc).toNat), .int .u32 k0.toNat, .int .u32 k1.toNat, .bool false])] [⟨true, .slice (some ⟨lg, 0, none⟩) 130 lc, 3, 1, 130, (Bi.bis (Hf.sumf dc false n) 130)⟩] := H.to' [0, 1, 2, 3] [0] (by decide) (by decide) rfl rfl
  refine hK7 _ _ ?_
  refine Sx.seq (fun K8 hK8 => ?_)
  have F := Sx.Fr.to F (kv' := [(0, .agg #[.int .u64 ((Wd.hi dc).toNat), .int .u64 ((Wd.lo dc).toNat), .int .u32 k0.toNat, .int .u32 k1.toNat, .bool false]), (1, .agg #[.int .u64 ((Wd.hi n).toNat), .int .u64 ((Wd.lo n).toNat)]), (2, .pointer (some ⟨g1, 0, none⟩)), (3, .pointer (some ⟨g2, 0, none⟩)), (4, .pointer (some ⟨g3, 0, none⟩)), (5, .int .i64 0), (9, .pointer (some ⟨g1, 4, none⟩)), (10, .bool false), (11, .int .i64 0), (12, v1), (13, .pointer (some ⟨g1, 0, none⟩)), (14, .agg #[.int .u64 ((Wd.hi dc).toNat), .int .u64 ((Wd.lo dc).toNat)]), (15, v2), (16, v3), (6, v3), (17, v4), (18, .agg #[.int .u64 ((Wd.hi n).toNat), .int .u64 ((Wd.lo n).toNat)]), (19, v5), (20, v6), (21, .slice (some ⟨g4, 0, none⟩) 1 1), (22, v7), (7, v7), (23, v3), (24, v7), (25, .slice (some ⟨lg, 0, none⟩) 130 lc), (8, .slice (some ⟨lg, 0, none⟩) 130 lc)]) ⟨rfl, rfl, rfl, rfl, rfl, rfl, rfl, rfl, rfl, rfl, rfl, rfl, rfl, rfl, rfl, rfl, rfl, rfl, rfl, rfl, rfl, rfl, rfl, rfl, rfl, rfl, trivial⟩
  refine Sx.drawn F (by kernel_rfl) (by kernel_rfl) (by kernel_rfl) [some (.slice (some ⟨lg, 0, none⟩) 130 lc), some (.slice (some ⟨lg, 1, none⟩) 128 (lc - 1)), some (.agg #[.int .u64 ((Wd.hi (Bi.of (Hf.farb dc false n) 128)).toNat), .int .u64 ((Wd.lo (Bi.of (Hf.farb dc false n) 128)).toNat)]), some (.pointer (some ⟨g1, 2, none⟩)), some (.agg #[.int .u32 k0.toNat, .int .u32 k1.toNat]), some (.slice (some ⟨lg, 0, none⟩) 130 lc), some (.pointer (some ⟨lg, 0, none⟩)), some (.int .i64 (((Hf.sumf dc false n) 0).toNat)), some (.bool ((((Hf.sumf dc false n) 0).toNat : Int) == 1)), some (.agg #[.int .u64 ((Wd.hi (Bi.of (Hf.farb dc false n) 128)).toNat), .int .u64 ((Wd.lo (Bi.of (Hf.farb dc false n) 128)).toNat), .int .u32 k0.toNat, .int .u32 k1.toNat, .bool ((((Hf.sumf dc false n) 0).toNat : Int) == 1)]), none] (fun L A w => Sx.Own w0 w [(true, g4, [.int .i64 0]), (true, g3, (cond (L 10) [.int .u64 ((Wd.hi (Bi.of (Hf.farb dc false n) 128)).toNat), .int .u64 ((Wd.lo (Bi.of (Hf.farb dc false n) 128)).toNat), .int .u32 k0.toNat, .int .u32 k1.toNat, .bool ((((Hf.sumf dc false n) 0).toNat : Int) == 1)] [.int .u64 ((Wd.hi 0#128).toNat), .int .u64 ((Wd.lo 0#128).toNat), .int .u32 0, .int .u32 0, .bool false])), (true, g2, [.int .u64 ((Wd.hi n).toNat), .int .u64 ((Wd.lo n).toNat)]), (true, g1, [.int .u64 ((Wd.hi dc).toNat), .int .u64 ((Wd.lo dc).toNat), .int .u32 k0.toNat, .int .u32 k1.toNat, .bool false])] [⟨true, .slice (some ⟨lg, 0, none⟩) 130 lc, 3, 1, 130, (Bi.bis (Hf.sumf dc false n) 130)⟩]) H.drew ?_ ?_
  · refine ⟨?_, ?_, ?_, ?_, ?_, ?_, ?_, ?_, ?_, ?_, ?_, trivial⟩
    · show Sx.StepAt _ _ _ _ _ _ _ 0
      intro L A w up hun hd F H
      have f10 : L 10 = false := up 10 0 rfl hun
      rw [f10] at H
      have F := Sx.Fr.to F (kv' := [(8, .slice (some ⟨lg, 0, none⟩) 130 lc)]) ⟨rfl, trivial⟩
      refine Sx.step_on rfl (Sx.d_move F (Or.inl rfl) rfl) ?_
      rintro xv w' ⟨hx, rfl⟩
      exact ⟨(fun cv hc => hx.trans (Option.some.inj (Option.some.inj hc))), (by show Sx.Own _ _ _ _; rw [show Inv.add L 0 10 = false from f10]; exact H)⟩
    · show Sx.StepAt _ _ _ _ _ _ _ 1
      intro L A w up hun hd F H
      have f10 : L 10 = false := up 10 1 rfl hun
      rw [f10] at H
      have F := Sx.Fr.to F (kv' := [(26, .slice (some ⟨lg, 0, none⟩) 130 lc)]) ⟨rfl, trivial⟩
      refine Sx.step_on rfl (Sx.d_sliceLH (l := 1) (h := 129) el_110 F rfl rfl rfl rfl rfl rfl (by decide) (by omega) (by omega) rfl rfl rfl) ?_
      rintro xv w' ⟨hx, rfl⟩
      exact ⟨(fun cv hc => hx.trans (Option.some.inj (Option.some.inj hc))), (by show Sx.Own _ _ _ _; rw [show Inv.add L 1 10 = false from f10]; exact H)⟩
    · show Sx.StepAt _ _ _ _ _ _ _ 2
      intro L A w up hun hd F H
      have f10 : L 10 = false := up 10 2 rfl hun
      rw [f10] at H
      have F := Sx.Fr.to F (kv' := [(27, .slice (some ⟨lg, 1, none⟩) 128 (lc - 1))]) ⟨rfl, trivial⟩
      refine Sx.step_on rfl (Sx.d_call (vs := [.slice (some ⟨lg, 1, none⟩) 128 (lc - 1)]) (v := .agg #[.int .u64 ((Wd.hi (Bi.of (Hf.farb dc false n) 128)).toNat), .int .u64 ((Wd.lo (Bi.of (Hf.farb dc false n) 128)).toNat)]) if_75 F H rfl rfl (rof_c (Hf.farb dc false n) _ _ _ (Bi.Rd.congr (Bi.Rd.part (f := Hf.sumf dc false n) (Bi.Rd.row (H.row 0 _ rfl rfl) (by decide)) 1 128 (by decide) _ 1 rfl) (Hf.far_at dc false n)))) ?_
      rintro xv w' ⟨hx, H⟩
      exact ⟨(fun cv hc => hx.trans (Option.some.inj (Option.some.inj hc))), (by show Sx.Own _ _ _ _; rw [show Inv.add L 2 10 = false from f10]; exact H)⟩
    · show Sx.StepAt _ _ _ _ _ _ _ 3
      intro L A w up hun hd F H
      have f10 : L 10 = false := up 10 3 rfl hun
      rw [f10] at H
      have F := Sx.Fr.to F (kv' := [(2, .pointer (some ⟨g1, 0, none⟩))]) ⟨rfl, trivial⟩
      refine Sx.step_on rfl (Sx.d_faddr (v := .pointer (some ⟨g1, 2, none⟩)) F rfl rfl (fa_86_1 _ 0 _)) ?_
      rintro xv w' ⟨hx, rfl⟩
      exact ⟨(fun cv hc => hx.trans (Option.some.inj (Option.some.inj hc))), (by show Sx.Own _ _ _ _; rw [show Inv.add L 3 10 = false from f10]; exact H)⟩
    · show Sx.StepAt _ _ _ _ _ _ _ 4
      intro L A w up hun hd F H
      have f10 : L 10 = false := up 10 4 rfl hun
      rw [f10] at H
      have F := Sx.Fr.to F (kv' := [(29, .pointer (some ⟨g1, 2, none⟩))]) ⟨rfl, trivial⟩
      refine Sx.step_on rfl (Sx.d_load (i := 3) (xs := [.int .u32 k0.toNat, .int .u32 k1.toNat]) rw_79 F H rfl rfl rfl rfl rfl) ?_
      rintro xv w' ⟨hx, rfl⟩
      exact ⟨(fun cv hc => hx.trans (Option.some.inj (Option.some.inj hc))), (by show Sx.Own _ _ _ _; rw [show Inv.add L 4 10 = false from f10]; exact H)⟩
    · show Sx.StepAt _ _ _ _ _ _ _ 5
      intro L A w up hun hd F H
      have f10 : L 10 = false := up 10 5 rfl hun
      rw [f10] at H
      have F := Sx.Fr.to F (kv' := [(8, .slice (some ⟨lg, 0, none⟩) 130 lc)]) ⟨rfl, trivial⟩
      refine Sx.step_on rfl (Sx.d_move F (Or.inl rfl) rfl) ?_
      rintro xv w' ⟨hx, rfl⟩
      exact ⟨(fun cv hc => hx.trans (Option.some.inj (Option.some.inj hc))), (by show Sx.Own _ _ _ _; rw [show Inv.add L 5 10 = false from f10]; exact H)⟩
    · show Sx.StepAt _ _ _ _ _ _ _ 6
      intro L A w up hun hd F H
      have f10 : L 10 = false := up 10 6 rfl hun
      rw [f10] at H
      have F := Sx.Fr.to F (kv' := [(31, .slice (some ⟨lg, 0, none⟩) 130 lc)]) ⟨rfl, trivial⟩
      refine Sx.step_on rfl (Sx.d_ixR (k := 0) el_110 F rfl rfl rfl (rfl) (by omega)) ?_
      rintro xv w' ⟨hx, rfl⟩
      exact ⟨(fun cv hc => hx.trans (Option.some.inj (Option.some.inj hc))), (by show Sx.Own _ _ _ _; rw [show Inv.add L 6 10 = false from f10]; exact H)⟩
    · show Sx.StepAt _ _ _ _ _ _ _ 7
      intro L A w up hun hd F H
      have f10 : L 10 = false := up 10 7 rfl hun
      rw [f10] at H
      have F := Sx.Fr.to F (kv' := [(32, .pointer (some ⟨lg, 0, none⟩))]) ⟨rfl, trivial⟩
      refine Sx.step_on rfl (Sx.d_loadR (i := 0) (v := .int .i64 (((Hf.sumf dc false n) 0).toNat)) one_3 F H rfl rfl rfl (Bi.at_ _ _ _ (by omega))) ?_
      rintro xv w' ⟨hx, rfl⟩
      exact ⟨(fun cv hc => hx.trans (Option.some.inj (Option.some.inj hc))), (by show Sx.Own _ _ _ _; rw [show Inv.add L 7 10 = false from f10]; exact H)⟩
    · show Sx.StepAt _ _ _ _ _ _ _ 8
      intro L A w up hun hd F H
      have f10 : L 10 = false := up 10 8 rfl hun
      rw [f10] at H
      have F := Sx.Fr.to F (kv' := [(33, .int .i64 (((Hf.sumf dc false n) 0).toNat))]) ⟨rfl, trivial⟩
      refine Sx.step_on rfl (Sx.d_bin (v := .bool ((((Hf.sumf dc false n) 0).toNat : Int) == 1)) F rfl rfl rfl (Sx.i_eq rfl)) ?_
      rintro xv w' ⟨hx, rfl⟩
      exact ⟨(fun cv hc => hx.trans (Option.some.inj (Option.some.inj hc))), (by show Sx.Own _ _ _ _; rw [show Inv.add L 8 10 = false from f10]; exact H)⟩
    · show Sx.StepAt _ _ _ _ _ _ _ 9
      intro L A w up hun hd F H
      have f10 : L 10 = false := up 10 9 rfl hun
      rw [f10] at H
      have F := Sx.Fr.to F (kv' := [(28, .agg #[.int .u64 ((Wd.hi (Bi.of (Hf.farb dc false n) 128)).toNat), .int .u64 ((Wd.lo (Bi.of (Hf.farb dc false n) 128)).toNat)]), (30, .agg #[.int .u32 k0.toNat, .int .u32 k1.toNat]), (34, .bool ((((Hf.sumf dc false n) 0).toNat : Int) == 1))]) ⟨rfl, rfl, rfl, trivial⟩
      refine Sx.step_on rfl (Sx.d_build (qs := #[(0, .agg #[.int .u64 ((Wd.hi (Bi.of (Hf.farb dc false n) 128)).toNat), .int .u64 ((Wd.lo (Bi.of (Hf.farb dc false n) 128)).toNat)]), (1, .agg #[.int .u32 k0.toNat, .int .u32 k1.toNat]), (2, .bool ((((Hf.sumf dc false n) 0).toNat : Int) == 1))]) (v := .agg #[.int .u64 ((Wd.hi (Bi.of (Hf.farb dc false n) 128)).toNat), .int .u64 ((Wd.lo (Bi.of (Hf.farb dc false n) 128)).toNat), .int .u32 k0.toNat, .int .u32 k1.toNat, .bool ((((Hf.sumf dc false n) 0).toNat : Int) == 1)]) F rfl rfl (by kernel_rfl)) ?_
      rintro xv w' ⟨hx, rfl⟩
      exact ⟨(fun cv hc => hx.trans (Option.some.inj (Option.some.inj hc))), (by show Sx.Own _ _ _ _; rw [show Inv.add L 9 10 = false from f10]; exact H)⟩
    · show Sx.StepAt _ _ _ _ _ _ _ 10
      intro L A w up hun hd F H
      have f10 : L 10 = false := hun
      rw [f10] at H
      have F := Sx.Fr.to F (kv' := [(4, .pointer (some ⟨g3, 0, none⟩)), (35, .agg #[.int .u64 ((Wd.hi (Bi.of (Hf.farb dc false n) 128)).toNat), .int .u64 ((Wd.lo (Bi.of (Hf.farb dc false n) 128)).toNat), .int .u32 k0.toNat, .int .u32 k1.toNat, .bool ((((Hf.sumf dc false n) 0).toNat : Int) == 1)])]) ⟨rfl, rfl, trivial⟩
      refine Sx.step_on rfl (Sx.d_store (i := 1) (xs := [.int .u64 ((Wd.hi (Bi.of (Hf.farb dc false n) 128)).toNat), .int .u64 ((Wd.lo (Bi.of (Hf.farb dc false n) 128)).toNat), .int .u32 k0.toNat, .int .u32 k1.toNat, .bool ((((Hf.sumf dc false n) 0).toNat : Int) == 1)]) (us := [.int .u64 ((Wd.hi (Bi.of (Hf.farb dc false n) 128)).toNat), .int .u64 ((Wd.lo (Bi.of (Hf.farb dc false n) 128)).toNat), .int .u32 k0.toNat, .int .u32 k1.toNat, .bool ((((Hf.sumf dc false n) 0).toNat : Int) == 1)]) sz_86 F H rfl rfl rfl rfl rfl rfl rfl (Nat.le_of_ble_eq_true rfl) rfl) ?_
      intro xv w' H
      exact ⟨(fun cv hc => by have h := Option.some.inj hc; cases h), H⟩
  · intro L A w hL F H
    have t10 : L 10 = true := hL 10 rfl
    rw [t10] at H
    have F := Sx.Fr.to F (kv' := [(4, .pointer (some ⟨g3, 0, none⟩))]) ⟨rfl, trivial⟩
    refine hK8 _ _ ?_
    refine wp_ret ?_
    try dsimp only [Exit.then, Exit.inBlock, Exit.jump]
    refine Sx.ret1 F Try.results53 (Sx.res_row (i := 1) (xs := [.int .u64 ((Wd.hi (Bi.of (Hf.farb dc false n) 128)).toNat), .int .u64 ((Wd.lo (Bi.of (Hf.farb dc false n) 128)).toNat), .int .u32 k0.toNat, .int .u32 k1.toNat, .bool ((((Hf.sumf dc false n) 0).toNat : Int) == 1)]) rw_86 F H rfl rfl rfl rfl) ⟨?_, H.below⟩
    rw [← Hf.far_eq dc k0 k1 false n]
theorem rword12_c (c : BitVec 128) (k0 k1 : BitVec 32) (b : Bool) (w : World) : Calls Try.prog 48 #[.agg #[.int .u64 ((Wd.hi c).toNat), .int .u64 ((Wd.lo c).toNat), .int .u32 k0.toNat, .int .u32 k1.toNat, .bool b]] w fun e w' => e = .returned (.int .u64 ((Hf.word ⟨c, k0, k1, b⟩).toNat)) ∧ Below w.heap.size w w' := by
  cases b
  · exact rword12_f c k0 k1 w
  · exact rword12_t c k0 k1 w
theorem rfar12_c (c : BitVec 128) (k0 k1 : BitVec 32) (b : Bool) (n : BitVec 128) (w : World) : Calls Try.prog 53 #[.agg #[.int .u64 ((Wd.hi c).toNat), .int .u64 ((Wd.lo c).toNat), .int .u32 k0.toNat, .int .u32 k1.toNat, .bool b], .agg #[.int .u64 ((Wd.hi n).toNat), .int .u64 ((Wd.lo n).toNat)]] w fun e w' => e = .returned (.agg #[.int .u64 ((Wd.hi ((Hf.jump ⟨c, k0, k1, b⟩ n).c)).toNat), .int .u64 ((Wd.lo ((Hf.jump ⟨c, k0, k1, b⟩ n).c)).toNat), .int .u32 (((Hf.jump ⟨c, k0, k1, b⟩ n).k0).toNat), .int .u32 (((Hf.jump ⟨c, k0, k1, b⟩ n).k1).toNat), .bool ((Hf.jump ⟨c, k0, k1, b⟩ n).b)]) ∧ Below w.heap.size w w' := by
  cases b
  · exact rfar12_f c k0 k1 n w
  · exact rfar12_t c k0 k1 n w
end Go.Proofs.Ytpbdffmgendboaa
