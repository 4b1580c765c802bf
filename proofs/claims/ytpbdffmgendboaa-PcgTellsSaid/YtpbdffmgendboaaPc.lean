/- pcg.Map, Right, Word, Step, Back, Jump walked. -/
import Derived.Test.YtpbdffmgendboaaSxE
import Derived.Test.YtpbdffmgendboaaAfC
import Derived.Test.YtpbdffmgendboaaAfD
import Derived.Test.YtpbdffmgendboaaPcPlain
namespace Go.Proofs.Ytpbdffmgendboaa
open Go Go.RowKit
def Pc.word (s : BitVec 128) : BitVec 64 := (((Wd.hi s ^^^ (Wd.hi s >>> 32)) * 15750249268501108917#64) ^^^ (((Wd.hi s ^^^ (Wd.hi s >>> 32)) * 15750249268501108917#64) >>> 48)) * (Wd.lo s ||| 1#64)
set_option maxRecDepth 100000 in
theorem pmap_c (ss si : BitVec 128) (w0 : World) : Calls Try.prog 44 #[.agg #[.int .u64 ((Wd.hi ss).toNat), .int .u64 ((Wd.lo ss).toNat), .int .u64 ((Wd.hi si).toNat), .int .u64 ((Wd.lo si).toNat)]] w0 fun e w' => e = .returned (.agg #[.int .u64 ((Wd.hi 15750249268501108917#128).toNat), .int .u64 ((Wd.lo 15750249268501108917#128).toNat), .int .u64 ((Wd.hi si).toNat), .int .u64 ((Wd.lo si).toNat)]) ∧ Below w0.heap.size w0 w' := by
  refine Sx.enter (args := [.agg #[.int .u64 ((Wd.hi ss).toNat), .int .u64 ((Wd.lo ss).toNat), .int .u64 ((Wd.hi si).toNat), .int .u64 ((Wd.lo si).toNat)]]) Try.func44 rfl Try.ntmps44 (Nat.le_of_ble_eq_true rfl) (fun A F => ?_)
  have H := Sx.Own.start w0
  refine Sx.seq (fun K1 hK1 => ?_)
  refine Sx.plain ?_
  refine Sx.sb F (Sx.d_box F H rfl rfl [.int .u64 ((Wd.hi ss).toNat), .int .u64 ((Wd.lo ss).toNat), .int .u64 ((Wd.hi si).toNat), .int .u64 ((Wd.lo si).toNat)] rfl) (Sx.wanted_none rfl _) rfl (by decide) (fun g1 A w F H => ?_)
  refine Sx.sb F (Sx.d_alloc H rfl [.int .u64 ((Wd.hi 0#128).toNat), .int .u64 ((Wd.lo 0#128).toNat), .int .u64 ((Wd.hi 0#128).toNat), .int .u64 ((Wd.lo 0#128).toNat)] zero_26) (Sx.wanted_none rfl _) rfl (by decide) (fun g2 A w F H => ?_)
  refine Sx.nil ?_
  refine hK1 _ _ ?_
  refine Sx.seq (fun K2 hK2 => ?_)
  have F := Sx.Fr.to F (kv' := [(0, .agg #[.int .u64 ((Wd.hi ss).toNat), .int .u64 ((Wd.lo ss).toNat), .int .u64 ((Wd.hi si).toNat), .int .u64 ((Wd.lo si).toNat)]), (1, .pointer (some ⟨g1, 0, none⟩)), (2, .pointer (some ⟨g2, 0, none⟩))]) ⟨rfl, rfl, rfl, trivial⟩
  refine Sx.drawn F (by kernel_rfl) (by kernel_rfl) (by kernel_rfl) [some (.agg #[.int .u64 ((Wd.hi 15750249268501108917#128).toNat), .int .u64 ((Wd.lo 15750249268501108917#128).toNat)]), some (.pointer (some ⟨g1, 2, none⟩)), some (.agg #[.int .u64 ((Wd.hi si).toNat), .int .u64 ((Wd.lo si).toNat)]), some (.agg #[.int .u64 ((Wd.hi 15750249268501108917#128).toNat), .int .u64 ((Wd.lo 15750249268501108917#128).toNat), .int .u64 ((Wd.hi si).toNat), .int .u64 ((Wd.lo si).toNat)]), none] (fun L A w => Sx.Own w0 w [(true, g2, (cond (L 4) [.int .u64 ((Wd.hi 15750249268501108917#128).toNat), .int .u64 ((Wd.lo 15750249268501108917#128).toNat), .int .u64 ((Wd.hi si).toNat), .int .u64 ((Wd.lo si).toNat)] [.int .u64 ((Wd.hi 0#128).toNat), .int .u64 ((Wd.lo 0#128).toNat), .int .u64 ((Wd.hi 0#128).toNat), .int .u64 ((Wd.lo 0#128).toNat)])), (true, g1, [.int .u64 ((Wd.hi ss).toNat), .int .u64 ((Wd.lo ss).toNat), .int .u64 ((Wd.hi si).toNat), .int .u64 ((Wd.lo si).toNat)])] []) H.drew ?_ ?_
  · refine ⟨?_, ?_, ?_, ?_, ?_, trivial⟩
    · show Sx.StepAt _ _ _ _ _ _ _ 0
      intro L A w up hun hd F H
      have f4 : L 4 = false := up 4 0 rfl hun
      rw [f4] at H
      have F := Sx.Fr.to F (kv' := []) trivial
      refine Sx.step_on rfl (Sx.d_call (vs := [.int .u64 15750249268501108917]) (v := .agg #[.int .u64 ((Wd.hi 15750249268501108917#128).toNat), .int .u64 ((Wd.lo 15750249268501108917#128).toNat)]) if_29 F H rfl rfl (Calls.val (wofV_c 15750249268501108917#64 _) (by kernel_rfl) (by kernel_rfl))) ?_
      rintro xv w' ⟨hx, H⟩
      exact ⟨(fun cv hc => hx.trans (Option.some.inj (Option.some.inj hc))), (by show Sx.Own _ _ _ _; rw [show Inv.add L 0 4 = false from f4]; exact H)⟩
    · show Sx.StepAt _ _ _ _ _ _ _ 1
      intro L A w up hun hd F H
      have f4 : L 4 = false := up 4 1 rfl hun
      rw [f4] at H
      have F := Sx.Fr.to F (kv' := [(1, .pointer (some ⟨g1, 0, none⟩))]) ⟨rfl, trivial⟩
      refine Sx.step_on rfl (Sx.d_faddr (v := .pointer (some ⟨g1, 2, none⟩)) F rfl rfl (fa_57_1 _ 0 _)) ?_
      rintro xv w' ⟨hx, rfl⟩
      exact ⟨(fun cv hc => hx.trans (Option.some.inj (Option.some.inj hc))), (by show Sx.Own _ _ _ _; rw [show Inv.add L 1 4 = false from f4]; exact H)⟩
    · show Sx.StepAt _ _ _ _ _ _ _ 2
      intro L A w up hun hd F H
      have f4 : L 4 = false := up 4 2 rfl hun
      rw [f4] at H
      have F := Sx.Fr.to F (kv' := [(4, .pointer (some ⟨g1, 2, none⟩))]) ⟨rfl, trivial⟩
      refine Sx.step_on rfl (Sx.d_load (i := 1) (xs := [.int .u64 ((Wd.hi si).toNat), .int .u64 ((Wd.lo si).toNat)]) rw_24 F H rfl rfl rfl rfl rfl) ?_
      rintro xv w' ⟨hx, rfl⟩
      exact ⟨(fun cv hc => hx.trans (Option.some.inj (Option.some.inj hc))), (by show Sx.Own _ _ _ _; rw [show Inv.add L 2 4 = false from f4]; exact H)⟩
    · show Sx.StepAt _ _ _ _ _ _ _ 3
      intro L A w up hun hd F H
      have f4 : L 4 = false := up 4 3 rfl hun
      rw [f4] at H
      have F := Sx.Fr.to F (kv' := [(3, .agg #[.int .u64 ((Wd.hi 15750249268501108917#128).toNat), .int .u64 ((Wd.lo 15750249268501108917#128).toNat)]), (5, .agg #[.int .u64 ((Wd.hi si).toNat), .int .u64 ((Wd.lo si).toNat)])]) ⟨rfl, rfl, trivial⟩
      refine Sx.step_on rfl (Sx.d_build (qs := #[(0, .agg #[.int .u64 ((Wd.hi 15750249268501108917#128).toNat), .int .u64 ((Wd.lo 15750249268501108917#128).toNat)]), (1, .agg #[.int .u64 ((Wd.hi si).toNat), .int .u64 ((Wd.lo si).toNat)])]) (v := .agg #[.int .u64 ((Wd.hi 15750249268501108917#128).toNat), .int .u64 ((Wd.lo 15750249268501108917#128).toNat), .int .u64 ((Wd.hi si).toNat), .int .u64 ((Wd.lo si).toNat)]) F rfl rfl (by kernel_rfl)) ?_
      rintro xv w' ⟨hx, rfl⟩
      exact ⟨(fun cv hc => hx.trans (Option.some.inj (Option.some.inj hc))), (by show Sx.Own _ _ _ _; rw [show Inv.add L 3 4 = false from f4]; exact H)⟩
    · show Sx.StepAt _ _ _ _ _ _ _ 4
      intro L A w up hun hd F H
      have f4 : L 4 = false := hun
      rw [f4] at H
      have F := Sx.Fr.to F (kv' := [(2, .pointer (some ⟨g2, 0, none⟩)), (6, .agg #[.int .u64 ((Wd.hi 15750249268501108917#128).toNat), .int .u64 ((Wd.lo 15750249268501108917#128).toNat), .int .u64 ((Wd.hi si).toNat), .int .u64 ((Wd.lo si).toNat)])]) ⟨rfl, rfl, trivial⟩
      refine Sx.step_on rfl (Sx.d_store (i := 0) (xs := [.int .u64 ((Wd.hi 15750249268501108917#128).toNat), .int .u64 ((Wd.lo 15750249268501108917#128).toNat), .int .u64 ((Wd.hi si).toNat), .int .u64 ((Wd.lo si).toNat)]) (us := [.int .u64 ((Wd.hi 15750249268501108917#128).toNat), .int .u64 ((Wd.lo 15750249268501108917#128).toNat), .int .u64 ((Wd.hi si).toNat), .int .u64 ((Wd.lo si).toNat)]) sz_26 F H rfl rfl rfl rfl rfl rfl rfl (Nat.le_of_ble_eq_true rfl) rfl) ?_
      intro xv w' H
      exact ⟨(fun cv hc => by have h := Option.some.inj hc; cases h), H⟩
  · intro L A w hL F H
    have t4 : L 4 = true := hL 4 rfl
    rw [t4] at H
    have F := Sx.Fr.to F (kv' := [(0, .agg #[.int .u64 ((Wd.hi ss).toNat), .int .u64 ((Wd.lo ss).toNat), .int .u64 ((Wd.hi si).toNat), .int .u64 ((Wd.lo si).toNat)]), (2, .pointer (some ⟨g2, 0, none⟩))]) ⟨rfl, rfl, trivial⟩
    refine hK2 _ _ ?_
    refine wp_ret ?_
    try dsimp only [Exit.then, Exit.inBlock, Exit.jump]
    refine Sx.ret1 F Try.results44 (Sx.res_row (i := 0) (xs := [.int .u64 ((Wd.hi 15750249268501108917#128).toNat), .int .u64 ((Wd.lo 15750249268501108917#128).toNat), .int .u64 ((Wd.hi si).toNat), .int .u64 ((Wd.lo si).toNat)]) rw_26 F H rfl rfl rfl rfl) ⟨?_, H.below⟩
    rfl
set_option maxRecDepth 100000 in
theorem pright_c (ss si : BitVec 128) (w0 : World) : Calls Try.prog 38 #[.agg #[.int .u64 ((Wd.hi ss).toNat), .int .u64 ((Wd.lo ss).toNat), .int .u64 ((Wd.hi si).toNat), .int .u64 ((Wd.lo si).toNat)]] w0 fun e w' => e = .returned (.bool (Af.odd si)) ∧ Below w0.heap.size w0 w' := by
  refine Sx.enter (args := [.agg #[.int .u64 ((Wd.hi ss).toNat), .int .u64 ((Wd.lo ss).toNat), .int .u64 ((Wd.hi si).toNat), .int .u64 ((Wd.lo si).toNat)]]) Try.func38 rfl Try.ntmps38 (Nat.le_of_ble_eq_true rfl) (fun A F => ?_)
  have H := Sx.Own.start w0
  refine Sx.seq (fun K1 hK1 => ?_)
  refine Sx.plain ?_
  refine Sx.sb F (Sx.d_box F H rfl rfl [.int .u64 ((Wd.hi ss).toNat), .int .u64 ((Wd.lo ss).toNat), .int .u64 ((Wd.hi si).toNat), .int .u64 ((Wd.lo si).toNat)] rfl) (Sx.wanted_none rfl _) rfl (by decide) (fun g1 A w F H => ?_)
  refine Sx.sv F (Sx.d_move F (Or.inr rfl) rfl) (Sx.wanted_none rfl _) rfl (by decide) (fun A F => ?_)
  refine Sx.nil ?_
  refine hK1 _ _ ?_
  refine Sx.seq (fun K2 hK2 => ?_)
  refine Sx.plain ?_
  refine Sx.sv F (Sx.d_faddr (v := .pointer (some ⟨g1, 2, none⟩)) F rfl rfl (fa_57_1 _ 0 _)) (Sx.wanted_none rfl _) rfl (by decide) (fun A F => ?_)
  refine Sx.sv F (Sx.d_load (i := 0) (xs := [.int .u64 ((Wd.hi si).toNat), .int .u64 ((Wd.lo si).toNat)]) rw_24 F H rfl rfl rfl rfl rfl) (Sx.wanted_none rfl _) rfl (by decide) (fun A F => ?_)
  refine Sx.sw F (Sx.d_call (vs := [.agg #[.int .u64 ((Wd.hi si).toNat), .int .u64 ((Wd.lo si).toNat)], .int .i64 0]) (v := .int .i64 (Wd.bit si 0)) if_30 F H rfl rfl (wbit_c si 0 (by omega) _)) (Sx.wanted_none rfl _) rfl (by decide) (fun A w F H => ?_)
  refine Sx.sv F (Sx.d_bin (v := .bool (((Wd.bit si 0) : Int) == 1)) F rfl rfl rfl (Sx.i_eq rfl)) (Sx.wanted_none rfl _) rfl (by decide) (fun A F => ?_)
  refine Sx.sv F (Sx.d_move F (Or.inr rfl) rfl) (Sx.wanted_none rfl _) rfl (by decide) (fun A F => ?_)
  refine Sx.nil ?_
  refine hK2 _ _ ?_
  refine wp_ret ?_
  try dsimp only [Exit.then, Exit.inBlock, Exit.jump]
  refine Sx.ret1 F Try.results38 (Sx.res_tmp (v := .bool (((Wd.bit si 0) : Int) == 1)) F rfl) ⟨?_, H.below⟩
  exact congrArg (fun q => Ending.returned (.bool q)) (by rw [bit_odd]; cases Af.odd si <;> rfl)
set_option maxRecDepth 100000 in
theorem pword_c (ss si : BitVec 128) (w0 : World) : Calls Try.prog 33 #[.agg #[.int .u64 ((Wd.hi ss).toNat), .int .u64 ((Wd.lo ss).toNat), .int .u64 ((Wd.hi si).toNat), .int .u64 ((Wd.lo si).toNat)]] w0 fun e w' => e = .returned (.int .u64 ((Pc.word ss).toNat)) ∧ Below w0.heap.size w0 w' := by
  refine Sx.enter (args := [.agg #[.int .u64 ((Wd.hi ss).toNat), .int .u64 ((Wd.lo ss).toNat), .int .u64 ((Wd.hi si).toNat), .int .u64 ((Wd.lo si).toNat)]]) Try.func33 rfl Try.ntmps33 (Nat.le_of_ble_eq_true rfl) (fun A F => ?_)
  have H := Sx.Own.start w0
  refine Sx.seq (fun K1 hK1 => ?_)
  refine Sx.plain ?_
  refine Sx.sb F (Sx.d_box F H rfl rfl [.int .u64 ((Wd.hi ss).toNat), .int .u64 ((Wd.lo ss).toNat), .int .u64 ((Wd.hi si).toNat), .int .u64 ((Wd.lo si).toNat)] rfl) (Sx.wanted_none rfl _) rfl (by decide) (fun g1 A w F H => ?_)
  refine Sx.sv F (Sx.d_move F (Or.inr rfl) rfl) (Sx.wanted_none rfl _) rfl (by decide) (fun A F => ?_)
  refine Sx.nil ?_
  refine hK1 _ _ ?_
  refine Sx.seq (fun K2 hK2 => ?_)
  have F := Sx.Fr.to F (kv' := [(0, .agg #[.int .u64 ((Wd.hi ss).toNat), .int .u64 ((Wd.lo ss).toNat), .int .u64 ((Wd.hi si).toNat), .int .u64 ((Wd.lo si).toNat)]), (1, .pointer (some ⟨g1, 0, none⟩)), (2, .int .u64 0)]) ⟨rfl, rfl, rfl, trivial⟩
  refine Sx.drawn F (by kernel_rfl) (by kernel_rfl) (by kernel_rfl) [some (.pointer (some ⟨g1, 0, none⟩)), some (.pointer (some ⟨g1, 0, none⟩)), some (.int .u64 ((Wd.hi ss).toNat)), some (.pointer (some ⟨g1, 0, none⟩)), some (.pointer (some ⟨g1, 1, none⟩)), some (.int .u64 ((Wd.lo ss).toNat)), some (.int .u64 (((Wd.lo ss) ||| 1#64).toNat)), some (.int .u64 ((Wd.hi ss).toNat)), some (.int .u64 (((Wd.lo ss) ||| 1#64).toNat))] (fun L A w => Sx.Own w0 w [(true, g1, [.int .u64 ((Wd.hi ss).toNat), .int .u64 ((Wd.lo ss).toNat), .int .u64 ((Wd.hi si).toNat), .int .u64 ((Wd.lo si).toNat)])] []) H.drew ?_ ?_
  · refine ⟨?_, ?_, ?_, ?_, ?_, ?_, ?_, ?_, ?_, trivial⟩
    · show Sx.StepAt _ _ _ _ _ _ _ 0
      intro L A w up hun hd F H
      have F := Sx.Fr.to F (kv' := [(1, .pointer (some ⟨g1, 0, none⟩))]) ⟨rfl, trivial⟩
      refine Sx.step_on rfl (Sx.d_faddr (v := .pointer (some ⟨g1, 0, none⟩)) F rfl rfl (fa_57_0 _ 0 _)) ?_
      rintro xv w' ⟨hx, rfl⟩
      exact ⟨(fun cv hc => hx.trans (Option.some.inj (Option.some.inj hc))), H⟩
    · show Sx.StepAt _ _ _ _ _ _ _ 1
      intro L A w up hun hd F H
      have F := Sx.Fr.to F (kv' := [(5, .pointer (some ⟨g1, 0, none⟩))]) ⟨rfl, trivial⟩
      refine Sx.step_on rfl (Sx.d_faddr (v := .pointer (some ⟨g1, 0, none⟩)) F rfl rfl (fa_24_0 _ 0 _)) ?_
      rintro xv w' ⟨hx, rfl⟩
      exact ⟨(fun cv hc => hx.trans (Option.some.inj (Option.some.inj hc))), H⟩
    · show Sx.StepAt _ _ _ _ _ _ _ 2
      intro L A w up hun hd F H
      have F := Sx.Fr.to F (kv' := [(6, .pointer (some ⟨g1, 0, none⟩))]) ⟨rfl, trivial⟩
      refine Sx.step_on rfl (Sx.d_load1 (i := 0) (v := .int .u64 ((Wd.hi ss).toNat)) one_22 F H rfl rfl rfl rfl) ?_
      rintro xv w' ⟨hx, rfl⟩
      exact ⟨(fun cv hc => hx.trans (Option.some.inj (Option.some.inj hc))), H⟩
    · show Sx.StepAt _ _ _ _ _ _ _ 3
      intro L A w up hun hd F H
      have F := Sx.Fr.to F (kv' := [(1, .pointer (some ⟨g1, 0, none⟩))]) ⟨rfl, trivial⟩
      refine Sx.step_on rfl (Sx.d_faddr (v := .pointer (some ⟨g1, 0, none⟩)) F rfl rfl (fa_57_0 _ 0 _)) ?_
      rintro xv w' ⟨hx, rfl⟩
      exact ⟨(fun cv hc => hx.trans (Option.some.inj (Option.some.inj hc))), H⟩
    · show Sx.StepAt _ _ _ _ _ _ _ 4
      intro L A w up hun hd F H
      have F := Sx.Fr.to F (kv' := [(8, .pointer (some ⟨g1, 0, none⟩))]) ⟨rfl, trivial⟩
      refine Sx.step_on rfl (Sx.d_faddr (v := .pointer (some ⟨g1, 1, none⟩)) F rfl rfl (fa_24_1 _ 0 _)) ?_
      rintro xv w' ⟨hx, rfl⟩
      exact ⟨(fun cv hc => hx.trans (Option.some.inj (Option.some.inj hc))), H⟩
    · show Sx.StepAt _ _ _ _ _ _ _ 5
      intro L A w up hun hd F H
      have F := Sx.Fr.to F (kv' := [(9, .pointer (some ⟨g1, 1, none⟩))]) ⟨rfl, trivial⟩
      refine Sx.step_on rfl (Sx.d_load1 (i := 0) (v := .int .u64 ((Wd.lo ss).toNat)) one_22 F H rfl rfl rfl rfl) ?_
      rintro xv w' ⟨hx, rfl⟩
      exact ⟨(fun cv hc => hx.trans (Option.some.inj (Option.some.inj hc))), H⟩
    · show Sx.StepAt _ _ _ _ _ _ _ 6
      intro L A w up hun hd F H
      have F := Sx.Fr.to F (kv' := [(10, .int .u64 ((Wd.lo ss).toNat))]) ⟨rfl, trivial⟩
      refine Sx.step_on rfl (Sx.d_bin (v := .int .u64 (((Wd.lo ss) ||| 1#64).toNat)) F rfl rfl rfl (Sx.i_or64 (Wd.lo ss) 1#64)) ?_
      rintro xv w' ⟨hx, rfl⟩
      exact ⟨(fun cv hc => hx.trans (Option.some.inj (Option.some.inj hc))), H⟩
    · show Sx.StepAt _ _ _ _ _ _ _ 7
      intro L A w up hun hd F H
      have F := Sx.Fr.to F (kv' := [(7, .int .u64 ((Wd.hi ss).toNat))]) ⟨rfl, trivial⟩
      refine Sx.step_on rfl (Sx.d_move F (Or.inr rfl) rfl) ?_
      rintro xv w' ⟨hx, rfl⟩
      exact ⟨(fun cv hc => hx.trans (Option.some.inj (Option.some.inj hc))), H⟩
    · show Sx.StepAt _ _ _ _ _ _ _ 8
      intro L A w up hun hd F H
      have F := Sx.Fr.to F (kv' := [(11, .int .u64 (((Wd.lo ss) ||| 1#64).toNat))]) ⟨rfl, trivial⟩
      refine Sx.step_on rfl (Sx.d_move F (Or.inr rfl) rfl) ?_
      rintro xv w' ⟨hx, rfl⟩
      exact ⟨(fun cv hc => hx.trans (Option.some.inj (Option.some.inj hc))), H⟩
  · intro L A w hL F H
    have F := Sx.Fr.to F (kv' := [(0, .agg #[.int .u64 ((Wd.hi ss).toNat), .int .u64 ((Wd.lo ss).toNat), .int .u64 ((Wd.hi si).toNat), .int .u64 ((Wd.lo si).toNat)]), (2, .int .u64 0), (3, .int .u64 ((Wd.hi ss).toNat)), (4, .int .u64 (((Wd.lo ss) ||| 1#64).toNat))]) ⟨rfl, rfl, rfl, rfl, trivial⟩
    refine hK2 _ _ ?_
    refine Sx.seq (fun K3 hK3 => ?_)
    refine Sx.plain ?_
    refine Sx.sv F (Sx.d_move F (Or.inl rfl) rfl) (Sx.wanted_none rfl _) rfl (by decide) (fun A F => ?_)
    refine Sx.sv F (Sx.d_move F (Or.inl rfl) rfl) (Sx.wanted_none rfl _) rfl (by decide) (fun A F => ?_)
    refine Sx.sv F (Sx.d_bin (v := .int .u64 (((Wd.hi ss) >>> 32).toNat)) F rfl rfl rfl (Sx.i_shr64 (Wd.hi ss) 32 (by decide) _)) (Sx.wanted_none rfl _) rfl (by decide) (fun A F => ?_)
    refine Sx.sv F (Sx.d_bin (v := .int .u64 (((Wd.hi ss) ^^^ ((Wd.hi ss) >>> 32)).toNat)) F rfl rfl rfl (Sx.i_xor64 (Wd.hi ss) ((Wd.hi ss) >>> 32))) (Sx.wanted_none rfl _) rfl (by decide) (fun A F => ?_)
    refine Sx.sv F (Sx.d_move F (Or.inr rfl) rfl) (Sx.wanted_none rfl _) rfl (by decide) (fun A F => ?_)
    refine Sx.nil ?_
    refine hK3 _ _ ?_
    refine Sx.seq (fun K4 hK4 => ?_)
    refine Sx.plain ?_
    refine Sx.sv F (Sx.d_move F (Or.inl rfl) rfl) (Sx.wanted_none rfl _) rfl (by decide) (fun A F => ?_)
    refine Sx.sv F (Sx.d_bin (v := .int .u64 ((((Wd.hi ss) ^^^ ((Wd.hi ss) >>> 32)) * 15750249268501108917#64).toNat)) F rfl rfl rfl (Sx.i_mul64 ((Wd.hi ss) ^^^ ((Wd.hi ss) >>> 32)) 15750249268501108917#64)) (Sx.wanted_none rfl _) rfl (by decide) (fun A F => ?_)
    refine Sx.sv F (Sx.d_move F (Or.inr rfl) rfl) (Sx.wanted_none rfl _) rfl (by decide) (fun A F => ?_)
    refine Sx.nil ?_
    refine hK4 _ _ ?_
    refine Sx.seq (fun K5 hK5 => ?_)
    refine Sx.plain ?_
    refine Sx.sv F (Sx.d_move F (Or.inl rfl) rfl) (Sx.wanted_none rfl _) rfl (by decide) (fun A F => ?_)
    refine Sx.sv F (Sx.d_move F (Or.inl rfl) rfl) (Sx.wanted_none rfl _) rfl (by decide) (fun A F => ?_)
    refine Sx.sv F (Sx.d_bin (v := .int .u64 (((((Wd.hi ss) ^^^ ((Wd.hi ss) >>> 32)) * 15750249268501108917#64) >>> 48).toNat)) F rfl rfl rfl (Sx.i_shr64 (((Wd.hi ss) ^^^ ((Wd.hi ss) >>> 32)) * 15750249268501108917#64) 48 (by decide) _)) (Sx.wanted_none rfl _) rfl (by decide) (fun A F => ?_)
    refine Sx.sv F (Sx.d_bin (v := .int .u64 (((((Wd.hi ss) ^^^ ((Wd.hi ss) >>> 32)) * 15750249268501108917#64) ^^^ ((((Wd.hi ss) ^^^ ((Wd.hi ss) >>> 32)) * 15750249268501108917#64) >>> 48)).toNat)) F rfl rfl rfl (Sx.i_xor64 (((Wd.hi ss) ^^^ ((Wd.hi ss) >>> 32)) * 15750249268501108917#64) ((((Wd.hi ss) ^^^ ((Wd.hi ss) >>> 32)) * 15750249268501108917#64) >>> 48))) (Sx.wanted_none rfl _) rfl (by decide) (fun A F => ?_)
    refine Sx.sv F (Sx.d_move F (Or.inr rfl) rfl) (Sx.wanted_none rfl _) rfl (by decide) (fun A F => ?_)
    refine Sx.nil ?_
    refine hK5 _ _ ?_
    refine Sx.seq (fun K6 hK6 => ?_)
    refine Sx.plain ?_
    refine Sx.sv F (Sx.d_move F (Or.inl rfl) rfl) (Sx.wanted_none rfl _) rfl (by decide) (fun A F => ?_)
    refine Sx.sv F (Sx.d_move F (Or.inl rfl) rfl) (Sx.wanted_none rfl _) rfl (by decide) (fun A F => ?_)
    refine Sx.sv F (Sx.d_bin (v := .int .u64 ((((((Wd.hi ss) ^^^ ((Wd.hi ss) >>> 32)) * 15750249268501108917#64) ^^^ ((((Wd.hi ss) ^^^ ((Wd.hi ss) >>> 32)) * 15750249268501108917#64) >>> 48)) * ((Wd.lo ss) ||| 1#64)).toNat)) F rfl rfl rfl (Sx.i_mul64 ((((Wd.hi ss) ^^^ ((Wd.hi ss) >>> 32)) * 15750249268501108917#64) ^^^ ((((Wd.hi ss) ^^^ ((Wd.hi ss) >>> 32)) * 15750249268501108917#64) >>> 48)) ((Wd.lo ss) ||| 1#64))) (Sx.wanted_none rfl _) rfl (by decide) (fun A F => ?_)
    refine Sx.sv F (Sx.d_move F (Or.inr rfl) rfl) (Sx.wanted_none rfl _) rfl (by decide) (fun A F => ?_)
    refine Sx.nil ?_
    refine hK6 _ _ ?_
    refine wp_ret ?_
    try dsimp only [Exit.then, Exit.inBlock, Exit.jump]
    refine Sx.ret1 F Try.results33 (Sx.res_tmp (v := .int .u64 ((((((Wd.hi ss) ^^^ ((Wd.hi ss) >>> 32)) * 15750249268501108917#64) ^^^ ((((Wd.hi ss) ^^^ ((Wd.hi ss) >>> 32)) * 15750249268501108917#64) >>> 48)) * ((Wd.lo ss) ||| 1#64)).toNat)) F rfl) ⟨?_, H.below⟩
    rfl
set_option maxRecDepth 100000 in
theorem pstep_c (ss si : BitVec 128) (w0 : World) : Calls Try.prog 36 #[.agg #[.int .u64 ((Wd.hi ss).toNat), .int .u64 ((Wd.lo ss).toNat), .int .u64 ((Wd.hi si).toNat), .int .u64 ((Wd.lo si).toNat)]] w0 fun e w' => e = .returned (.agg #[.int .u64 ((Wd.hi ((Pc.step ⟨ss, si⟩).s)).toNat), .int .u64 ((Wd.lo ((Pc.step ⟨ss, si⟩).s)).toNat), .int .u64 ((Wd.hi si).toNat), .int .u64 ((Wd.lo si).toNat)]) ∧ Below w0.heap.size w0 w' := by
  refine Sx.enter (args := [.agg #[.int .u64 ((Wd.hi ss).toNat), .int .u64 ((Wd.lo ss).toNat), .int .u64 ((Wd.hi si).toNat), .int .u64 ((Wd.lo si).toNat)]]) Try.func36 rfl Try.ntmps36 (Nat.le_of_ble_eq_true rfl) (fun A F => ?_)
  have H := Sx.Own.start w0
  refine Sx.seq (fun K1 hK1 => ?_)
  refine Sx.plain ?_
  refine Sx.sb F (Sx.d_box F H rfl rfl [.int .u64 ((Wd.hi ss).toNat), .int .u64 ((Wd.lo ss).toNat), .int .u64 ((Wd.hi si).toNat), .int .u64 ((Wd.lo si).toNat)] rfl) (Sx.wanted_none rfl _) rfl (by decide) (fun g1 A w F H => ?_)
  refine Sx.sb F (Sx.d_alloc H rfl [.int .u64 ((Wd.hi 0#128).toNat), .int .u64 ((Wd.lo 0#128).toNat), .int .u64 ((Wd.hi 0#128).toNat), .int .u64 ((Wd.lo 0#128).toNat)] zero_57) (Sx.wanted_none rfl _) rfl (by decide) (fun g2 A w F H => ?_)
  refine Sx.nil ?_
  refine hK1 _ _ ?_
  refine Sx.seq (fun K2 hK2 => ?_)
  have F := Sx.Fr.to F (kv' := [(0, .agg #[.int .u64 ((Wd.hi ss).toNat), .int .u64 ((Wd.lo ss).toNat), .int .u64 ((Wd.hi si).toNat), .int .u64 ((Wd.lo si).toNat)]), (1, .pointer (some ⟨g1, 0, none⟩)), (2, .pointer (some ⟨g2, 0, none⟩))]) ⟨rfl, rfl, rfl, trivial⟩
  refine Sx.drawn F (by kernel_rfl) (by kernel_rfl) (by kernel_rfl) [some (.agg #[.int .u64 ((Wd.hi ss).toNat), .int .u64 ((Wd.lo ss).toNat), .int .u64 ((Wd.hi si).toNat), .int .u64 ((Wd.lo si).toNat)]), some (.agg #[.int .u64 ((Wd.hi 15750249268501108917#128).toNat), .int .u64 ((Wd.lo 15750249268501108917#128).toNat), .int .u64 ((Wd.hi si).toNat), .int .u64 ((Wd.lo si).toNat)]), some (.pointer (some ⟨g1, 0, none⟩)), some (.agg #[.int .u64 ((Wd.hi ss).toNat), .int .u64 ((Wd.lo ss).toNat)]), some (.agg #[.int .u64 ((Wd.hi (15750249268501108917#128 * ss + si)).toNat), .int .u64 ((Wd.lo (15750249268501108917#128 * ss + si)).toNat)]), some (.pointer (some ⟨g1, 2, none⟩)), some (.agg #[.int .u64 ((Wd.hi si).toNat), .int .u64 ((Wd.lo si).toNat)]), some (.agg #[.int .u64 ((Wd.hi (15750249268501108917#128 * ss + si)).toNat), .int .u64 ((Wd.lo (15750249268501108917#128 * ss + si)).toNat), .int .u64 ((Wd.hi si).toNat), .int .u64 ((Wd.lo si).toNat)]), none] (fun L A w => Sx.Own w0 w [(true, g2, (cond (L 8) [.int .u64 ((Wd.hi (15750249268501108917#128 * ss + si)).toNat), .int .u64 ((Wd.lo (15750249268501108917#128 * ss + si)).toNat), .int .u64 ((Wd.hi si).toNat), .int .u64 ((Wd.lo si).toNat)] [.int .u64 ((Wd.hi 0#128).toNat), .int .u64 ((Wd.lo 0#128).toNat), .int .u64 ((Wd.hi 0#128).toNat), .int .u64 ((Wd.lo 0#128).toNat)])), (true, g1, [.int .u64 ((Wd.hi ss).toNat), .int .u64 ((Wd.lo ss).toNat), .int .u64 ((Wd.hi si).toNat), .int .u64 ((Wd.lo si).toNat)])] []) H.drew ?_ ?_
  · refine ⟨?_, ?_, ?_, ?_, ?_, ?_, ?_, ?_, ?_, trivial⟩
    · show Sx.StepAt _ _ _ _ _ _ _ 0
      intro L A w up hun hd F H
      have f8 : L 8 = false := up 8 0 rfl hun
      rw [f8] at H
      have F := Sx.Fr.to F (kv' := [(1, .pointer (some ⟨g1, 0, none⟩))]) ⟨rfl, trivial⟩
      refine Sx.step_on rfl (Sx.d_load (i := 1) (xs := [.int .u64 ((Wd.hi ss).toNat), .int .u64 ((Wd.lo ss).toNat), .int .u64 ((Wd.hi si).toNat), .int .u64 ((Wd.lo si).toNat)]) rw_57 F H rfl rfl rfl rfl rfl) ?_
      rintro xv w' ⟨hx, rfl⟩
      exact ⟨(fun cv hc => hx.trans (Option.some.inj (Option.some.inj hc))), (by show Sx.Own _ _ _ _; rw [show Inv.add L 0 8 = false from f8]; exact H)⟩
    · show Sx.StepAt _ _ _ _ _ _ _ 1
      intro L A w up hun hd F H
      have f8 : L 8 = false := up 8 1 rfl hun
      rw [f8] at H
      have F := Sx.Fr.to F (kv' := [(3, .agg #[.int .u64 ((Wd.hi ss).toNat), .int .u64 ((Wd.lo ss).toNat), .int .u64 ((Wd.hi si).toNat), .int .u64 ((Wd.lo si).toNat)])]) ⟨rfl, trivial⟩
      refine Sx.step_on rfl (Sx.d_call (vs := [.agg #[.int .u64 ((Wd.hi ss).toNat), .int .u64 ((Wd.lo ss).toNat), .int .u64 ((Wd.hi si).toNat), .int .u64 ((Wd.lo si).toNat)]]) (v := .agg #[.int .u64 ((Wd.hi 15750249268501108917#128).toNat), .int .u64 ((Wd.lo 15750249268501108917#128).toNat), .int .u64 ((Wd.hi si).toNat), .int .u64 ((Wd.lo si).toNat)]) if_44 F H rfl rfl (pmap_c ss si _)) ?_
      rintro xv w' ⟨hx, H⟩
      exact ⟨(fun cv hc => hx.trans (Option.some.inj (Option.some.inj hc))), (by show Sx.Own _ _ _ _; rw [show Inv.add L 1 8 = false from f8]; exact H)⟩
    · show Sx.StepAt _ _ _ _ _ _ _ 2
      intro L A w up hun hd F H
      have f8 : L 8 = false := up 8 2 rfl hun
      rw [f8] at H
      have F := Sx.Fr.to F (kv' := [(1, .pointer (some ⟨g1, 0, none⟩))]) ⟨rfl, trivial⟩
      refine Sx.step_on rfl (Sx.d_faddr (v := .pointer (some ⟨g1, 0, none⟩)) F rfl rfl (fa_57_0 _ 0 _)) ?_
      rintro xv w' ⟨hx, rfl⟩
      exact ⟨(fun cv hc => hx.trans (Option.some.inj (Option.some.inj hc))), (by show Sx.Own _ _ _ _; rw [show Inv.add L 2 8 = false from f8]; exact H)⟩
    · show Sx.StepAt _ _ _ _ _ _ _ 3
      intro L A w up hun hd F H
      have f8 : L 8 = false := up 8 3 rfl hun
      rw [f8] at H
      have F := Sx.Fr.to F (kv' := [(5, .pointer (some ⟨g1, 0, none⟩))]) ⟨rfl, trivial⟩
      refine Sx.step_on rfl (Sx.d_load (i := 1) (xs := [.int .u64 ((Wd.hi ss).toNat), .int .u64 ((Wd.lo ss).toNat)]) rw_24 F H rfl rfl rfl rfl rfl) ?_
      rintro xv w' ⟨hx, rfl⟩
      exact ⟨(fun cv hc => hx.trans (Option.some.inj (Option.some.inj hc))), (by show Sx.Own _ _ _ _; rw [show Inv.add L 3 8 = false from f8]; exact H)⟩
    · show Sx.StepAt _ _ _ _ _ _ _ 4
      intro L A w up hun hd F H
      have f8 : L 8 = false := up 8 4 rfl hun
      rw [f8] at H
      have F := Sx.Fr.to F (kv' := [(4, .agg #[.int .u64 ((Wd.hi 15750249268501108917#128).toNat), .int .u64 ((Wd.lo 15750249268501108917#128).toNat), .int .u64 ((Wd.hi si).toNat), .int .u64 ((Wd.lo si).toNat)]), (6, .agg #[.int .u64 ((Wd.hi ss).toNat), .int .u64 ((Wd.lo ss).toNat)])]) ⟨rfl, rfl, trivial⟩
      refine Sx.step_on rfl (Sx.d_call (vs := [.agg #[.int .u64 ((Wd.hi 15750249268501108917#128).toNat), .int .u64 ((Wd.lo 15750249268501108917#128).toNat), .int .u64 ((Wd.hi si).toNat), .int .u64 ((Wd.lo si).toNat)], .agg #[.int .u64 ((Wd.hi ss).toNat), .int .u64 ((Wd.lo ss).toNat)]]) (v := .agg #[.int .u64 ((Wd.hi (15750249268501108917#128 * ss + si)).toNat), .int .u64 ((Wd.lo (15750249268501108917#128 * ss + si)).toNat)]) if_21 F H rfl rfl (aat_c 15750249268501108917#128 si ss _)) ?_
      rintro xv w' ⟨hx, H⟩
      exact ⟨(fun cv hc => hx.trans (Option.some.inj (Option.some.inj hc))), (by show Sx.Own _ _ _ _; rw [show Inv.add L 4 8 = false from f8]; exact H)⟩
    · show Sx.StepAt _ _ _ _ _ _ _ 5
      intro L A w up hun hd F H
      have f8 : L 8 = false := up 8 5 rfl hun
      rw [f8] at H
      have F := Sx.Fr.to F (kv' := [(1, .pointer (some ⟨g1, 0, none⟩))]) ⟨rfl, trivial⟩
      refine Sx.step_on rfl (Sx.d_faddr (v := .pointer (some ⟨g1, 2, none⟩)) F rfl rfl (fa_57_1 _ 0 _)) ?_
      rintro xv w' ⟨hx, rfl⟩
      exact ⟨(fun cv hc => hx.trans (Option.some.inj (Option.some.inj hc))), (by show Sx.Own _ _ _ _; rw [show Inv.add L 5 8 = false from f8]; exact H)⟩
    · show Sx.StepAt _ _ _ _ _ _ _ 6
      intro L A w up hun hd F H
      have f8 : L 8 = false := up 8 6 rfl hun
      rw [f8] at H
      have F := Sx.Fr.to F (kv' := [(8, .pointer (some ⟨g1, 2, none⟩))]) ⟨rfl, trivial⟩
      refine Sx.step_on rfl (Sx.d_load (i := 1) (xs := [.int .u64 ((Wd.hi si).toNat), .int .u64 ((Wd.lo si).toNat)]) rw_24 F H rfl rfl rfl rfl rfl) ?_
      rintro xv w' ⟨hx, rfl⟩
      exact ⟨(fun cv hc => hx.trans (Option.some.inj (Option.some.inj hc))), (by show Sx.Own _ _ _ _; rw [show Inv.add L 6 8 = false from f8]; exact H)⟩
    · show Sx.StepAt _ _ _ _ _ _ _ 7
      intro L A w up hun hd F H
      have f8 : L 8 = false := up 8 7 rfl hun
      rw [f8] at H
      have F := Sx.Fr.to F (kv' := [(7, .agg #[.int .u64 ((Wd.hi (15750249268501108917#128 * ss + si)).toNat), .int .u64 ((Wd.lo (15750249268501108917#128 * ss + si)).toNat)]), (9, .agg #[.int .u64 ((Wd.hi si).toNat), .int .u64 ((Wd.lo si).toNat)])]) ⟨rfl, rfl, trivial⟩
      refine Sx.step_on rfl (Sx.d_build (qs := #[(0, .agg #[.int .u64 ((Wd.hi (15750249268501108917#128 * ss + si)).toNat), .int .u64 ((Wd.lo (15750249268501108917#128 * ss + si)).toNat)]), (1, .agg #[.int .u64 ((Wd.hi si).toNat), .int .u64 ((Wd.lo si).toNat)])]) (v := .agg #[.int .u64 ((Wd.hi (15750249268501108917#128 * ss + si)).toNat), .int .u64 ((Wd.lo (15750249268501108917#128 * ss + si)).toNat), .int .u64 ((Wd.hi si).toNat), .int .u64 ((Wd.lo si).toNat)]) F rfl rfl (by kernel_rfl)) ?_
      rintro xv w' ⟨hx, rfl⟩
      exact ⟨(fun cv hc => hx.trans (Option.some.inj (Option.some.inj hc))), (by show Sx.Own _ _ _ _; rw [show Inv.add L 7 8 = false from f8]; exact H)⟩
    · show Sx.StepAt _ _ _ _ _ _ _ 8
      intro L A w up hun hd F H
      have f8 : L 8 = false := hun
      rw [f8] at H
      have F := Sx.Fr.to F (kv' := [(2, .pointer (some ⟨g2, 0, none⟩)), (10, .agg #[.int .u64 ((Wd.hi (15750249268501108917#128 * ss + si)).toNat), .int .u64 ((Wd.lo (15750249268501108917#128 * ss + si)).toNat), .int .u64 ((Wd.hi si).toNat), .int .u64 ((Wd.lo si).toNat)])]) ⟨rfl, rfl, trivial⟩
      refine Sx.step_on rfl (Sx.d_store (i := 0) (xs := [.int .u64 ((Wd.hi (15750249268501108917#128 * ss + si)).toNat), .int .u64 ((Wd.lo (15750249268501108917#128 * ss + si)).toNat), .int .u64 ((Wd.hi si).toNat), .int .u64 ((Wd.lo si).toNat)]) (us := [.int .u64 ((Wd.hi (15750249268501108917#128 * ss + si)).toNat), .int .u64 ((Wd.lo (15750249268501108917#128 * ss + si)).toNat), .int .u64 ((Wd.hi si).toNat), .int .u64 ((Wd.lo si).toNat)]) sz_57 F H rfl rfl rfl rfl rfl rfl rfl (Nat.le_of_ble_eq_true rfl) rfl) ?_
      intro xv w' H
      exact ⟨(fun cv hc => by have h := Option.some.inj hc; cases h), H⟩
  · intro L A w hL F H
    have t8 : L 8 = true := hL 8 rfl
    rw [t8] at H
    have F := Sx.Fr.to F (kv' := [(0, .agg #[.int .u64 ((Wd.hi ss).toNat), .int .u64 ((Wd.lo ss).toNat), .int .u64 ((Wd.hi si).toNat), .int .u64 ((Wd.lo si).toNat)]), (2, .pointer (some ⟨g2, 0, none⟩))]) ⟨rfl, rfl, trivial⟩
    refine hK2 _ _ ?_
    refine wp_ret ?_
    try dsimp only [Exit.then, Exit.inBlock, Exit.jump]
    refine Sx.ret1 F Try.results36 (Sx.res_row (i := 0) (xs := [.int .u64 ((Wd.hi (15750249268501108917#128 * ss + si)).toNat), .int .u64 ((Wd.lo (15750249268501108917#128 * ss + si)).toNat), .int .u64 ((Wd.hi si).toNat), .int .u64 ((Wd.lo si).toNat)]) rw_57 F H rfl rfl rfl rfl) ⟨?_, H.below⟩
    rfl
set_option maxRecDepth 100000 in
theorem pback_c (ss si : BitVec 128) (w0 : World) : Calls Try.prog 43 #[.agg #[.int .u64 ((Wd.hi ss).toNat), .int .u64 ((Wd.lo ss).toNat), .int .u64 ((Wd.hi si).toNat), .int .u64 ((Wd.lo si).toNat)]] w0 fun e w' => e = .returned (.agg #[.int .u64 ((Wd.hi ((Pc.back ⟨ss, si⟩).s)).toNat), .int .u64 ((Wd.lo ((Pc.back ⟨ss, si⟩).s)).toNat), .int .u64 ((Wd.hi si).toNat), .int .u64 ((Wd.lo si).toNat)]) ∧ Below w0.heap.size w0 w' := by
  refine Sx.enter (args := [.agg #[.int .u64 ((Wd.hi ss).toNat), .int .u64 ((Wd.lo ss).toNat), .int .u64 ((Wd.hi si).toNat), .int .u64 ((Wd.lo si).toNat)]]) Try.func43 rfl Try.ntmps43 (Nat.le_of_ble_eq_true rfl) (fun A F => ?_)
  have H := Sx.Own.start w0
  refine Sx.seq (fun K1 hK1 => ?_)
  refine Sx.plain ?_
  refine Sx.sb F (Sx.d_box F H rfl rfl [.int .u64 ((Wd.hi ss).toNat), .int .u64 ((Wd.lo ss).toNat), .int .u64 ((Wd.hi si).toNat), .int .u64 ((Wd.lo si).toNat)] rfl) (Sx.wanted_none rfl _) rfl (by decide) (fun g1 A w F H => ?_)
  refine Sx.sb F (Sx.d_alloc H rfl [.int .u64 ((Wd.hi 0#128).toNat), .int .u64 ((Wd.lo 0#128).toNat), .int .u64 ((Wd.hi 0#128).toNat), .int .u64 ((Wd.lo 0#128).toNat)] zero_57) (Sx.wanted_none rfl _) rfl (by decide) (fun g2 A w F H => ?_)
  refine Sx.nil ?_
  refine hK1 _ _ ?_
  refine Sx.seq (fun K2 hK2 => ?_)
  refine Sx.plain ?_
  refine Sx.sv F (Sx.d_load (i := 1) (xs := [.int .u64 ((Wd.hi ss).toNat), .int .u64 ((Wd.lo ss).toNat), .int .u64 ((Wd.hi si).toNat), .int .u64 ((Wd.lo si).toNat)]) rw_57 F H rfl rfl rfl rfl rfl) (Sx.wanted_none rfl _) rfl (by decide) (fun A F => ?_)
  refine Sx.sw F (Sx.d_call (vs := [.agg #[.int .u64 ((Wd.hi ss).toNat), .int .u64 ((Wd.lo ss).toNat), .int .u64 ((Wd.hi si).toNat), .int .u64 ((Wd.lo si).toNat)]]) (v := .agg #[.int .u64 ((Wd.hi 15750249268501108917#128).toNat), .int .u64 ((Wd.lo 15750249268501108917#128).toNat), .int .u64 ((Wd.hi si).toNat), .int .u64 ((Wd.lo si).toNat)]) if_44 F H rfl rfl (pmap_c ss si _)) (Sx.wanted_none rfl _) rfl (by decide) (fun A w F H => ?_)
  refine Sx.sw F (Sx.d_call (vs := [.agg #[.int .u64 ((Wd.hi 15750249268501108917#128).toNat), .int .u64 ((Wd.lo 15750249268501108917#128).toNat), .int .u64 ((Wd.hi si).toNat), .int .u64 ((Wd.lo si).toNat)]]) (v := .tuple #[.agg #[.int .u64 ((Wd.hi (Af.inv 15750249268501108917#128)).toNat), .int .u64 ((Wd.lo (Af.inv 15750249268501108917#128)).toNat), .int .u64 ((Wd.hi (Af.inv 15750249268501108917#128 * (0#128 - si))).toNat), .int .u64 ((Wd.lo (Af.inv 15750249268501108917#128 * (0#128 - si))).toNat)], .int .i64 0]) if_18 F H rfl rfl (ainv_ok 15750249268501108917#128 si Pc.odd_factor _)) (Sx.wanted_none rfl _) rfl (by decide) (fun A w F H => ?_)
  refine Sx.sv F (Sx.d_move F (Or.inl rfl) rfl) (Sx.wanted_none rfl _) rfl (by decide) (fun A F => ?_)
  refine Sx.sv F (Sx.d_extract (v := .agg #[.int .u64 ((Wd.hi (Af.inv 15750249268501108917#128)).toNat), .int .u64 ((Wd.lo (Af.inv 15750249268501108917#128)).toNat), .int .u64 ((Wd.hi (Af.inv 15750249268501108917#128 * (0#128 - si))).toNat), .int .u64 ((Wd.lo (Af.inv 15750249268501108917#128 * (0#128 - si))).toNat)]) F rfl rfl rfl) (Sx.wanted_none rfl _) rfl (by decide) (fun A F => ?_)
  refine Sx.sv F (Sx.d_extract (v := .int .i64 0) F rfl rfl rfl) (Sx.wanted_none rfl _) rfl (by decide) (fun A F => ?_)
  refine Sx.sb F (Sx.d_alloc H rfl [.int .u64 ((Wd.hi 0#128).toNat), .int .u64 ((Wd.lo 0#128).toNat), .int .u64 ((Wd.hi 0#128).toNat), .int .u64 ((Wd.lo 0#128).toNat)] zero_26) (Sx.wanted_none rfl _) rfl (by decide) (fun g3 A w F H => ?_)
  refine Sx.ss F (Sx.d_store (i := 0) (xs := [.int .u64 ((Wd.hi (Af.inv 15750249268501108917#128)).toNat), .int .u64 ((Wd.lo (Af.inv 15750249268501108917#128)).toNat), .int .u64 ((Wd.hi (Af.inv 15750249268501108917#128 * (0#128 - si))).toNat), .int .u64 ((Wd.lo (Af.inv 15750249268501108917#128 * (0#128 - si))).toNat)]) (us := [.int .u64 ((Wd.hi (Af.inv 15750249268501108917#128)).toNat), .int .u64 ((Wd.lo (Af.inv 15750249268501108917#128)).toNat), .int .u64 ((Wd.hi (Af.inv 15750249268501108917#128 * (0#128 - si))).toNat), .int .u64 ((Wd.lo (Af.inv 15750249268501108917#128 * (0#128 - si))).toNat)]) sz_26 F H rfl rfl rfl rfl rfl rfl rfl (Nat.le_of_ble_eq_true rfl) rfl) (Sx.wanted_none rfl _) rfl (fun A w F (H : Sx.Own w0 _ [(true, g3, [.int .u64 ((Wd.hi (Af.inv 15750249268501108917#128)).toNat), .int .u64 ((Wd.lo (Af.inv 15750249268501108917#128)).toNat), .int .u64 ((Wd.hi (Af.inv 15750249268501108917#128 * (0#128 - si))).toNat), .int .u64 ((Wd.lo (Af.inv 15750249268501108917#128 * (0#128 - si))).toNat)]), (true, g2, [.int .u64 ((Wd.hi 0#128).toNat), .int .u64 ((Wd.lo 0#128).toNat), .int .u64 ((Wd.hi 0#128).toNat), .int .u64 ((Wd.lo 0#128).toNat)]), (true, g1, [.int .u64 ((Wd.hi ss).toNat), .int .u64 ((Wd.lo ss).toNat), .int .u64 ((Wd.hi si).toNat), .int .u64 ((Wd.lo si).toNat)])] []) => ?_)
  refine Sx.sv F (Sx.d_move F (Or.inr rfl) rfl) (Sx.wanted_none rfl _) rfl (by decide) (fun A F => ?_)
  refine Sx.nil ?_
  refine hK2 _ _ ?_
  refine Sx.seq (fun K3 hK3 => ?_)
  have F := Sx.Fr.to F (kv' := [(0, .agg #[.int .u64 ((Wd.hi ss).toNat), .int .u64 ((Wd.lo ss).toNat), .int .u64 ((Wd.hi si).toNat), .int .u64 ((Wd.lo si).toNat)]), (1, .pointer (some ⟨g1, 0, none⟩)), (2, .pointer (some ⟨g2, 0, none⟩)), (6, .agg #[.int .u64 ((Wd.hi ss).toNat), .int .u64 ((Wd.lo ss).toNat), .int .u64 ((Wd.hi si).toNat), .int .u64 ((Wd.lo si).toNat)]), (7, .agg #[.int .u64 ((Wd.hi 15750249268501108917#128).toNat), .int .u64 ((Wd.lo 15750249268501108917#128).toNat), .int .u64 ((Wd.hi si).toNat), .int .u64 ((Wd.lo si).toNat)]), (8, .tuple #[.agg #[.int .u64 ((Wd.hi (Af.inv 15750249268501108917#128)).toNat), .int .u64 ((Wd.lo (Af.inv 15750249268501108917#128)).toNat), .int .u64 ((Wd.hi (Af.inv 15750249268501108917#128 * (0#128 - si))).toNat), .int .u64 ((Wd.lo (Af.inv 15750249268501108917#128 * (0#128 - si))).toNat)], .int .i64 0]), (5, .tuple #[.agg #[.int .u64 ((Wd.hi (Af.inv 15750249268501108917#128)).toNat), .int .u64 ((Wd.lo (Af.inv 15750249268501108917#128)).toNat), .int .u64 ((Wd.hi (Af.inv 15750249268501108917#128 * (0#128 - si))).toNat), .int .u64 ((Wd.lo (Af.inv 15750249268501108917#128 * (0#128 - si))).toNat)], .int .i64 0]), (9, .agg #[.int .u64 ((Wd.hi (Af.inv 15750249268501108917#128)).toNat), .int .u64 ((Wd.lo (Af.inv 15750249268501108917#128)).toNat), .int .u64 ((Wd.hi (Af.inv 15750249268501108917#128 * (0#128 - si))).toNat), .int .u64 ((Wd.lo (Af.inv 15750249268501108917#128 * (0#128 - si))).toNat)]), (10, .int .i64 0), (3, .pointer (some ⟨g3, 0, none⟩)), (4, .int .i64 0)]) ⟨rfl, rfl, rfl, rfl, rfl, rfl, rfl, rfl, rfl, rfl, rfl, trivial⟩
  refine Sx.drawn F (by kernel_rfl) (by kernel_rfl) (by kernel_rfl) [some (.agg #[.int .u64 ((Wd.hi (Af.inv 15750249268501108917#128)).toNat), .int .u64 ((Wd.lo (Af.inv 15750249268501108917#128)).toNat), .int .u64 ((Wd.hi (Af.inv 15750249268501108917#128 * (0#128 - si))).toNat), .int .u64 ((Wd.lo (Af.inv 15750249268501108917#128 * (0#128 - si))).toNat)]), some (.pointer (some ⟨g1, 0, none⟩)), some (.agg #[.int .u64 ((Wd.hi ss).toNat), .int .u64 ((Wd.lo ss).toNat)]), some (.agg #[.int .u64 ((Wd.hi ((Af.inv 15750249268501108917#128) * ss + (Af.inv 15750249268501108917#128 * (0#128 - si)))).toNat), .int .u64 ((Wd.lo ((Af.inv 15750249268501108917#128) * ss + (Af.inv 15750249268501108917#128 * (0#128 - si)))).toNat)]), some (.pointer (some ⟨g1, 2, none⟩)), some (.agg #[.int .u64 ((Wd.hi si).toNat), .int .u64 ((Wd.lo si).toNat)]), some (.agg #[.int .u64 ((Wd.hi ((Af.inv 15750249268501108917#128) * ss + (Af.inv 15750249268501108917#128 * (0#128 - si)))).toNat), .int .u64 ((Wd.lo ((Af.inv 15750249268501108917#128) * ss + (Af.inv 15750249268501108917#128 * (0#128 - si)))).toNat), .int .u64 ((Wd.hi si).toNat), .int .u64 ((Wd.lo si).toNat)]), none] (fun L A w => Sx.Own w0 w [(true, g3, [.int .u64 ((Wd.hi (Af.inv 15750249268501108917#128)).toNat), .int .u64 ((Wd.lo (Af.inv 15750249268501108917#128)).toNat), .int .u64 ((Wd.hi (Af.inv 15750249268501108917#128 * (0#128 - si))).toNat), .int .u64 ((Wd.lo (Af.inv 15750249268501108917#128 * (0#128 - si))).toNat)]), (true, g2, (cond (L 7) [.int .u64 ((Wd.hi ((Af.inv 15750249268501108917#128) * ss + (Af.inv 15750249268501108917#128 * (0#128 - si)))).toNat), .int .u64 ((Wd.lo ((Af.inv 15750249268501108917#128) * ss + (Af.inv 15750249268501108917#128 * (0#128 - si)))).toNat), .int .u64 ((Wd.hi si).toNat), .int .u64 ((Wd.lo si).toNat)] [.int .u64 ((Wd.hi 0#128).toNat), .int .u64 ((Wd.lo 0#128).toNat), .int .u64 ((Wd.hi 0#128).toNat), .int .u64 ((Wd.lo 0#128).toNat)])), (true, g1, [.int .u64 ((Wd.hi ss).toNat), .int .u64 ((Wd.lo ss).toNat), .int .u64 ((Wd.hi si).toNat), .int .u64 ((Wd.lo si).toNat)])] []) H.drew ?_ ?_
  · refine ⟨?_, ?_, ?_, ?_, ?_, ?_, ?_, ?_, trivial⟩
    · show Sx.StepAt _ _ _ _ _ _ _ 0
      intro L A w up hun hd F H
      have f7 : L 7 = false := up 7 0 rfl hun
      rw [f7] at H
      have F := Sx.Fr.to F (kv' := [(3, .pointer (some ⟨g3, 0, none⟩))]) ⟨rfl, trivial⟩
      refine Sx.step_on rfl (Sx.d_load (i := 0) (xs := [.int .u64 ((Wd.hi (Af.inv 15750249268501108917#128)).toNat), .int .u64 ((Wd.lo (Af.inv 15750249268501108917#128)).toNat), .int .u64 ((Wd.hi (Af.inv 15750249268501108917#128 * (0#128 - si))).toNat), .int .u64 ((Wd.lo (Af.inv 15750249268501108917#128 * (0#128 - si))).toNat)]) rw_26 F H rfl rfl rfl rfl rfl) ?_
      rintro xv w' ⟨hx, rfl⟩
      exact ⟨(fun cv hc => hx.trans (Option.some.inj (Option.some.inj hc))), (by show Sx.Own _ _ _ _; rw [show Inv.add L 0 7 = false from f7]; exact H)⟩
    · show Sx.StepAt _ _ _ _ _ _ _ 1
      intro L A w up hun hd F H
      have f7 : L 7 = false := up 7 1 rfl hun
      rw [f7] at H
      have F := Sx.Fr.to F (kv' := [(1, .pointer (some ⟨g1, 0, none⟩))]) ⟨rfl, trivial⟩
      refine Sx.step_on rfl (Sx.d_faddr (v := .pointer (some ⟨g1, 0, none⟩)) F rfl rfl (fa_57_0 _ 0 _)) ?_
      rintro xv w' ⟨hx, rfl⟩
      exact ⟨(fun cv hc => hx.trans (Option.some.inj (Option.some.inj hc))), (by show Sx.Own _ _ _ _; rw [show Inv.add L 1 7 = false from f7]; exact H)⟩
    · show Sx.StepAt _ _ _ _ _ _ _ 2
      intro L A w up hun hd F H
      have f7 : L 7 = false := up 7 2 rfl hun
      rw [f7] at H
      have F := Sx.Fr.to F (kv' := [(12, .pointer (some ⟨g1, 0, none⟩))]) ⟨rfl, trivial⟩
      refine Sx.step_on rfl (Sx.d_load (i := 2) (xs := [.int .u64 ((Wd.hi ss).toNat), .int .u64 ((Wd.lo ss).toNat)]) rw_24 F H rfl rfl rfl rfl rfl) ?_
      rintro xv w' ⟨hx, rfl⟩
      exact ⟨(fun cv hc => hx.trans (Option.some.inj (Option.some.inj hc))), (by show Sx.Own _ _ _ _; rw [show Inv.add L 2 7 = false from f7]; exact H)⟩
    · show Sx.StepAt _ _ _ _ _ _ _ 3
      intro L A w up hun hd F H
      have f7 : L 7 = false := up 7 3 rfl hun
      rw [f7] at H
      have F := Sx.Fr.to F (kv' := [(11, .agg #[.int .u64 ((Wd.hi (Af.inv 15750249268501108917#128)).toNat), .int .u64 ((Wd.lo (Af.inv 15750249268501108917#128)).toNat), .int .u64 ((Wd.hi (Af.inv 15750249268501108917#128 * (0#128 - si))).toNat), .int .u64 ((Wd.lo (Af.inv 15750249268501108917#128 * (0#128 - si))).toNat)]), (13, .agg #[.int .u64 ((Wd.hi ss).toNat), .int .u64 ((Wd.lo ss).toNat)])]) ⟨rfl, rfl, trivial⟩
      refine Sx.step_on rfl (Sx.d_call (vs := [.agg #[.int .u64 ((Wd.hi (Af.inv 15750249268501108917#128)).toNat), .int .u64 ((Wd.lo (Af.inv 15750249268501108917#128)).toNat), .int .u64 ((Wd.hi (Af.inv 15750249268501108917#128 * (0#128 - si))).toNat), .int .u64 ((Wd.lo (Af.inv 15750249268501108917#128 * (0#128 - si))).toNat)], .agg #[.int .u64 ((Wd.hi ss).toNat), .int .u64 ((Wd.lo ss).toNat)]]) (v := .agg #[.int .u64 ((Wd.hi ((Af.inv 15750249268501108917#128) * ss + (Af.inv 15750249268501108917#128 * (0#128 - si)))).toNat), .int .u64 ((Wd.lo ((Af.inv 15750249268501108917#128) * ss + (Af.inv 15750249268501108917#128 * (0#128 - si)))).toNat)]) if_21 F H rfl rfl (aat_c (Af.inv 15750249268501108917#128) (Af.inv 15750249268501108917#128 * (0#128 - si)) ss _)) ?_
      rintro xv w' ⟨hx, H⟩
      exact ⟨(fun cv hc => hx.trans (Option.some.inj (Option.some.inj hc))), (by show Sx.Own _ _ _ _; rw [show Inv.add L 3 7 = false from f7]; exact H)⟩
    · show Sx.StepAt _ _ _ _ _ _ _ 4
      intro L A w up hun hd F H
      have f7 : L 7 = false := up 7 4 rfl hun
      rw [f7] at H
      have F := Sx.Fr.to F (kv' := [(1, .pointer (some ⟨g1, 0, none⟩))]) ⟨rfl, trivial⟩
      refine Sx.step_on rfl (Sx.d_faddr (v := .pointer (some ⟨g1, 2, none⟩)) F rfl rfl (fa_57_1 _ 0 _)) ?_
      rintro xv w' ⟨hx, rfl⟩
      exact ⟨(fun cv hc => hx.trans (Option.some.inj (Option.some.inj hc))), (by show Sx.Own _ _ _ _; rw [show Inv.add L 4 7 = false from f7]; exact H)⟩
    · show Sx.StepAt _ _ _ _ _ _ _ 5
      intro L A w up hun hd F H
      have f7 : L 7 = false := up 7 5 rfl hun
      rw [f7] at H
      have F := Sx.Fr.to F (kv' := [(15, .pointer (some ⟨g1, 2, none⟩))]) ⟨rfl, trivial⟩
      refine Sx.step_on rfl (Sx.d_load (i := 2) (xs := [.int .u64 ((Wd.hi si).toNat), .int .u64 ((Wd.lo si).toNat)]) rw_24 F H rfl rfl rfl rfl rfl) ?_
      rintro xv w' ⟨hx, rfl⟩
      exact ⟨(fun cv hc => hx.trans (Option.some.inj (Option.some.inj hc))), (by show Sx.Own _ _ _ _; rw [show Inv.add L 5 7 = false from f7]; exact H)⟩
    · show Sx.StepAt _ _ _ _ _ _ _ 6
      intro L A w up hun hd F H
      have f7 : L 7 = false := up 7 6 rfl hun
      rw [f7] at H
      have F := Sx.Fr.to F (kv' := [(14, .agg #[.int .u64 ((Wd.hi ((Af.inv 15750249268501108917#128) * ss + (Af.inv 15750249268501108917#128 * (0#128 - si)))).toNat), .int .u64 ((Wd.lo ((Af.inv 15750249268501108917#128) * ss + (Af.inv 15750249268501108917#128 * (0#128 - si)))).toNat)]), (16, .agg #[.int .u64 ((Wd.hi si).toNat), .int .u64 ((Wd.lo si).toNat)])]) ⟨rfl, rfl, trivial⟩
      refine Sx.step_on rfl (Sx.d_build (qs := #[(0, .agg #[.int .u64 ((Wd.hi ((Af.inv 15750249268501108917#128) * ss + (Af.inv 15750249268501108917#128 * (0#128 - si)))).toNat), .int .u64 ((Wd.lo ((Af.inv 15750249268501108917#128) * ss + (Af.inv 15750249268501108917#128 * (0#128 - si)))).toNat)]), (1, .agg #[.int .u64 ((Wd.hi si).toNat), .int .u64 ((Wd.lo si).toNat)])]) (v := .agg #[.int .u64 ((Wd.hi ((Af.inv 15750249268501108917#128) * ss + (Af.inv 15750249268501108917#128 * (0#128 - si)))).toNat), .int .u64 ((Wd.lo ((Af.inv 15750249268501108917#128) * ss + (Af.inv 15750249268501108917#128 * (0#128 - si)))).toNat), .int .u64 ((Wd.hi si).toNat), .int .u64 ((Wd.lo si).toNat)]) F rfl rfl (by kernel_rfl)) ?_
      rintro xv w' ⟨hx, rfl⟩
      exact ⟨(fun cv hc => hx.trans (Option.some.inj (Option.some.inj hc))), (by show Sx.Own _ _ _ _; rw [show Inv.add L 6 7 = false from f7]; exact H)⟩
    · show Sx.StepAt _ _ _ _ _ _ _ 7
      intro L A w up hun hd F H
      have f7 : L 7 = false := hun
      rw [f7] at H
      have F := Sx.Fr.to F (kv' := [(2, .pointer (some ⟨g2, 0, none⟩)), (17, .agg #[.int .u64 ((Wd.hi ((Af.inv 15750249268501108917#128) * ss + (Af.inv 15750249268501108917#128 * (0#128 - si)))).toNat), .int .u64 ((Wd.lo ((Af.inv 15750249268501108917#128) * ss + (Af.inv 15750249268501108917#128 * (0#128 - si)))).toNat), .int .u64 ((Wd.hi si).toNat), .int .u64 ((Wd.lo si).toNat)])]) ⟨rfl, rfl, trivial⟩
      refine Sx.step_on rfl (Sx.d_store (i := 1) (xs := [.int .u64 ((Wd.hi ((Af.inv 15750249268501108917#128) * ss + (Af.inv 15750249268501108917#128 * (0#128 - si)))).toNat), .int .u64 ((Wd.lo ((Af.inv 15750249268501108917#128) * ss + (Af.inv 15750249268501108917#128 * (0#128 - si)))).toNat), .int .u64 ((Wd.hi si).toNat), .int .u64 ((Wd.lo si).toNat)]) (us := [.int .u64 ((Wd.hi ((Af.inv 15750249268501108917#128) * ss + (Af.inv 15750249268501108917#128 * (0#128 - si)))).toNat), .int .u64 ((Wd.lo ((Af.inv 15750249268501108917#128) * ss + (Af.inv 15750249268501108917#128 * (0#128 - si)))).toNat), .int .u64 ((Wd.hi si).toNat), .int .u64 ((Wd.lo si).toNat)]) sz_57 F H rfl rfl rfl rfl rfl rfl rfl (Nat.le_of_ble_eq_true rfl) rfl) ?_
      intro xv w' H
      exact ⟨(fun cv hc => by have h := Option.some.inj hc; cases h), H⟩
  · intro L A w hL F H
    have t7 : L 7 = true := hL 7 rfl
    rw [t7] at H
    have F := Sx.Fr.to F (kv' := [(0, .agg #[.int .u64 ((Wd.hi ss).toNat), .int .u64 ((Wd.lo ss).toNat), .int .u64 ((Wd.hi si).toNat), .int .u64 ((Wd.lo si).toNat)]), (1, .pointer (some ⟨g1, 0, none⟩)), (2, .pointer (some ⟨g2, 0, none⟩)), (6, .agg #[.int .u64 ((Wd.hi ss).toNat), .int .u64 ((Wd.lo ss).toNat), .int .u64 ((Wd.hi si).toNat), .int .u64 ((Wd.lo si).toNat)]), (7, .agg #[.int .u64 ((Wd.hi 15750249268501108917#128).toNat), .int .u64 ((Wd.lo 15750249268501108917#128).toNat), .int .u64 ((Wd.hi si).toNat), .int .u64 ((Wd.lo si).toNat)]), (8, .tuple #[.agg #[.int .u64 ((Wd.hi (Af.inv 15750249268501108917#128)).toNat), .int .u64 ((Wd.lo (Af.inv 15750249268501108917#128)).toNat), .int .u64 ((Wd.hi (Af.inv 15750249268501108917#128 * (0#128 - si))).toNat), .int .u64 ((Wd.lo (Af.inv 15750249268501108917#128 * (0#128 - si))).toNat)], .int .i64 0]), (5, .tuple #[.agg #[.int .u64 ((Wd.hi (Af.inv 15750249268501108917#128)).toNat), .int .u64 ((Wd.lo (Af.inv 15750249268501108917#128)).toNat), .int .u64 ((Wd.hi (Af.inv 15750249268501108917#128 * (0#128 - si))).toNat), .int .u64 ((Wd.lo (Af.inv 15750249268501108917#128 * (0#128 - si))).toNat)], .int .i64 0]), (9, .agg #[.int .u64 ((Wd.hi (Af.inv 15750249268501108917#128)).toNat), .int .u64 ((Wd.lo (Af.inv 15750249268501108917#128)).toNat), .int .u64 ((Wd.hi (Af.inv 15750249268501108917#128 * (0#128 - si))).toNat), .int .u64 ((Wd.lo (Af.inv 15750249268501108917#128 * (0#128 - si))).toNat)]), (10, .int .i64 0), (3, .pointer (some ⟨g3, 0, none⟩))]) ⟨rfl, rfl, rfl, rfl, rfl, rfl, rfl, rfl, rfl, rfl, trivial⟩
    refine hK3 _ _ ?_
    refine wp_ret ?_
    try dsimp only [Exit.then, Exit.inBlock, Exit.jump]
    refine Sx.ret1 F Try.results43 (Sx.res_row (i := 1) (xs := [.int .u64 ((Wd.hi ((Af.inv 15750249268501108917#128) * ss + (Af.inv 15750249268501108917#128 * (0#128 - si)))).toNat), .int .u64 ((Wd.lo ((Af.inv 15750249268501108917#128) * ss + (Af.inv 15750249268501108917#128 * (0#128 - si)))).toNat), .int .u64 ((Wd.hi si).toNat), .int .u64 ((Wd.lo si).toNat)]) rw_57 F H rfl rfl rfl rfl) ⟨?_, H.below⟩
    rfl
set_option maxRecDepth 100000 in
theorem pjump_ok (ss si n : BitVec 128) (ho : Af.odd si = true) (w0 : World) : Calls Try.prog 40 #[.agg #[.int .u64 ((Wd.hi ss).toNat), .int .u64 ((Wd.lo ss).toNat), .int .u64 ((Wd.hi si).toNat), .int .u64 ((Wd.lo si).toNat)], .agg #[.int .u64 ((Wd.hi n).toNat), .int .u64 ((Wd.lo n).toNat)]] w0 fun e w' => e = .returned (.tuple #[.agg #[.int .u64 ((Wd.hi ((Pc.jump ⟨ss, si⟩ n).s)).toNat), .int .u64 ((Wd.lo ((Pc.jump ⟨ss, si⟩ n).s)).toNat), .int .u64 ((Wd.hi si).toNat), .int .u64 ((Wd.lo si).toNat)], .int .i64 0]) ∧ Below w0.heap.size w0 w' := by
  refine Sx.enter (args := [.agg #[.int .u64 ((Wd.hi ss).toNat), .int .u64 ((Wd.lo ss).toNat), .int .u64 ((Wd.hi si).toNat), .int .u64 ((Wd.lo si).toNat)], .agg #[.int .u64 ((Wd.hi n).toNat), .int .u64 ((Wd.lo n).toNat)]]) Try.func40 rfl Try.ntmps40 (Nat.le_of_ble_eq_true rfl) (fun A F => ?_)
  have H := Sx.Own.start w0
  refine Sx.seq (fun K1 hK1 => ?_)
  refine Sx.plain ?_
  refine Sx.sb F (Sx.d_box F H rfl rfl [.int .u64 ((Wd.hi ss).toNat), .int .u64 ((Wd.lo ss).toNat), .int .u64 ((Wd.hi si).toNat), .int .u64 ((Wd.lo si).toNat)] rfl) (Sx.wanted_none rfl _) rfl (by decide) (fun g1 A w F H => ?_)
  refine Sx.sb F (Sx.d_box F H rfl rfl [.int .u64 ((Wd.hi n).toNat), .int .u64 ((Wd.lo n).toNat)] rfl) (Sx.wanted_none rfl _) rfl (by decide) (fun g2 A w F H => ?_)
  refine Sx.sb F (Sx.d_alloc H rfl [.int .u64 ((Wd.hi 0#128).toNat), .int .u64 ((Wd.lo 0#128).toNat), .int .u64 ((Wd.hi 0#128).toNat), .int .u64 ((Wd.lo 0#128).toNat)] zero_57) (Sx.wanted_none rfl _) rfl (by decide) (fun g3 A w F H => ?_)
  refine Sx.sv F (Sx.d_move F (Or.inr rfl) rfl) (Sx.wanted_none rfl _) rfl (by decide) (fun A F => ?_)
  refine Sx.nil ?_
  refine hK1 _ _ ?_
  refine Sx.seq (fun K2 hK2 => ?_)
  refine Sx.seq (fun K3 hK3 => ?_)
  refine Sx.plain ?_
  refine Sx.sv F (Sx.d_load (i := 2) (xs := [.int .u64 ((Wd.hi ss).toNat), .int .u64 ((Wd.lo ss).toNat), .int .u64 ((Wd.hi si).toNat), .int .u64 ((Wd.lo si).toNat)]) rw_57 F H rfl rfl rfl rfl rfl) (Sx.wanted_none rfl _) rfl (by decide) (fun A F => ?_)
  refine Sx.sw F (Sx.d_call (vs := [.agg #[.int .u64 ((Wd.hi ss).toNat), .int .u64 ((Wd.lo ss).toNat), .int .u64 ((Wd.hi si).toNat), .int .u64 ((Wd.lo si).toNat)]]) (v := .bool true) if_38 F H rfl rfl (Calls.val (pright_c ss si _) rfl (congrArg Value.bool (ho)))) (Sx.wanted_none rfl _) rfl (by decide) (fun A w F H => ?_)
  refine Sx.sv F (Sx.d_un (v := .bool false) F rfl rfl rfl) (Sx.wanted_none rfl _) rfl (by decide) (fun A F => ?_)
  refine Sx.nil ?_
  refine hK3 _ _ ?_
  refine Sx.condF F rfl ?_
  refine wp_skip ?_
  refine hK2 _ _ ?_
  refine Sx.seq (fun K4 hK4 => ?_)
  have F := Sx.Fr.to F (kv' := [(0, .agg #[.int .u64 ((Wd.hi ss).toNat), .int .u64 ((Wd.lo ss).toNat), .int .u64 ((Wd.hi si).toNat), .int .u64 ((Wd.lo si).toNat)]), (1, .agg #[.int .u64 ((Wd.hi n).toNat), .int .u64 ((Wd.lo n).toNat)]), (2, .pointer (some ⟨g1, 0, none⟩)), (3, .pointer (some ⟨g2, 0, none⟩)), (4, .pointer (some ⟨g3, 0, none⟩)), (6, .agg #[.int .u64 ((Wd.hi ss).toNat), .int .u64 ((Wd.lo ss).toNat), .int .u64 ((Wd.hi si).toNat), .int .u64 ((Wd.lo si).toNat)]), (7, .bool true), (8, .bool false)]) ⟨rfl, rfl, rfl, rfl, rfl, rfl, rfl, rfl, trivial⟩
  refine Sx.drawn F (by kernel_rfl) (by kernel_rfl) (by kernel_rfl) [some (.agg #[.int .u64 ((Wd.hi ss).toNat), .int .u64 ((Wd.lo ss).toNat), .int .u64 ((Wd.hi si).toNat), .int .u64 ((Wd.lo si).toNat)]), some (.agg #[.int .u64 ((Wd.hi 15750249268501108917#128).toNat), .int .u64 ((Wd.lo 15750249268501108917#128).toNat), .int .u64 ((Wd.hi si).toNat), .int .u64 ((Wd.lo si).toNat)]), some (.agg #[.int .u64 ((Wd.hi n).toNat), .int .u64 ((Wd.lo n).toNat)]), some (.agg #[.int .u64 ((Wd.hi ((Af.pow ⟨15750249268501108917#128, si⟩ (n).toNat).a)).toNat), .int .u64 ((Wd.lo ((Af.pow ⟨15750249268501108917#128, si⟩ (n).toNat).a)).toNat), .int .u64 ((Wd.hi ((Af.pow ⟨15750249268501108917#128, si⟩ (n).toNat).c)).toNat), .int .u64 ((Wd.lo ((Af.pow ⟨15750249268501108917#128, si⟩ (n).toNat).c)).toNat)]), some (.pointer (some ⟨g1, 0, none⟩)), some (.agg #[.int .u64 ((Wd.hi ss).toNat), .int .u64 ((Wd.lo ss).toNat)]), some (.agg #[.int .u64 ((Wd.hi (((Af.pow ⟨15750249268501108917#128, si⟩ (n).toNat).a) * ss + ((Af.pow ⟨15750249268501108917#128, si⟩ (n).toNat).c))).toNat), .int .u64 ((Wd.lo (((Af.pow ⟨15750249268501108917#128, si⟩ (n).toNat).a) * ss + ((Af.pow ⟨15750249268501108917#128, si⟩ (n).toNat).c))).toNat)]), some (.pointer (some ⟨g1, 2, none⟩)), some (.agg #[.int .u64 ((Wd.hi si).toNat), .int .u64 ((Wd.lo si).toNat)]), some (.agg #[.int .u64 ((Wd.hi (((Af.pow ⟨15750249268501108917#128, si⟩ (n).toNat).a) * ss + ((Af.pow ⟨15750249268501108917#128, si⟩ (n).toNat).c))).toNat), .int .u64 ((Wd.lo (((Af.pow ⟨15750249268501108917#128, si⟩ (n).toNat).a) * ss + ((Af.pow ⟨15750249268501108917#128, si⟩ (n).toNat).c))).toNat), .int .u64 ((Wd.hi si).toNat), .int .u64 ((Wd.lo si).toNat)]), none, some (.int .i64 0)] (fun L A w => Sx.Own w0 w [(true, g3, (cond (L 10) [.int .u64 ((Wd.hi (((Af.pow ⟨15750249268501108917#128, si⟩ (n).toNat).a) * ss + ((Af.pow ⟨15750249268501108917#128, si⟩ (n).toNat).c))).toNat), .int .u64 ((Wd.lo (((Af.pow ⟨15750249268501108917#128, si⟩ (n).toNat).a) * ss + ((Af.pow ⟨15750249268501108917#128, si⟩ (n).toNat).c))).toNat), .int .u64 ((Wd.hi si).toNat), .int .u64 ((Wd.lo si).toNat)] [.int .u64 ((Wd.hi 0#128).toNat), .int .u64 ((Wd.lo 0#128).toNat), .int .u64 ((Wd.hi 0#128).toNat), .int .u64 ((Wd.lo 0#128).toNat)])), (true, g2, [.int .u64 ((Wd.hi n).toNat), .int .u64 ((Wd.lo n).toNat)]), (true, g1, [.int .u64 ((Wd.hi ss).toNat), .int .u64 ((Wd.lo ss).toNat), .int .u64 ((Wd.hi si).toNat), .int .u64 ((Wd.lo si).toNat)])] []) H.drew ?_ ?_
  · refine ⟨?_, ?_, ?_, ?_, ?_, ?_, ?_, ?_, ?_, ?_, ?_, ?_, trivial⟩
    · show Sx.StepAt _ _ _ _ _ _ _ 0
      intro L A w up hun hd F H
      have f10 : L 10 = false := up 10 0 rfl hun
      rw [f10] at H
      have F := Sx.Fr.to F (kv' := [(2, .pointer (some ⟨g1, 0, none⟩))]) ⟨rfl, trivial⟩
      refine Sx.step_on rfl (Sx.d_load (i := 2) (xs := [.int .u64 ((Wd.hi ss).toNat), .int .u64 ((Wd.lo ss).toNat), .int .u64 ((Wd.hi si).toNat), .int .u64 ((Wd.lo si).toNat)]) rw_57 F H rfl rfl rfl rfl rfl) ?_
      rintro xv w' ⟨hx, rfl⟩
      exact ⟨(fun cv hc => hx.trans (Option.some.inj (Option.some.inj hc))), (by show Sx.Own _ _ _ _; rw [show Inv.add L 0 10 = false from f10]; exact H)⟩
    · show Sx.StepAt _ _ _ _ _ _ _ 1
      intro L A w up hun hd F H
      have f10 : L 10 = false := up 10 1 rfl hun
      rw [f10] at H
      have F := Sx.Fr.to F (kv' := [(10, .agg #[.int .u64 ((Wd.hi ss).toNat), .int .u64 ((Wd.lo ss).toNat), .int .u64 ((Wd.hi si).toNat), .int .u64 ((Wd.lo si).toNat)])]) ⟨rfl, trivial⟩
      refine Sx.step_on rfl (Sx.d_call (vs := [.agg #[.int .u64 ((Wd.hi ss).toNat), .int .u64 ((Wd.lo ss).toNat), .int .u64 ((Wd.hi si).toNat), .int .u64 ((Wd.lo si).toNat)]]) (v := .agg #[.int .u64 ((Wd.hi 15750249268501108917#128).toNat), .int .u64 ((Wd.lo 15750249268501108917#128).toNat), .int .u64 ((Wd.hi si).toNat), .int .u64 ((Wd.lo si).toNat)]) if_44 F H rfl rfl (pmap_c ss si _)) ?_
      rintro xv w' ⟨hx, H⟩
      exact ⟨(fun cv hc => hx.trans (Option.some.inj (Option.some.inj hc))), (by show Sx.Own _ _ _ _; rw [show Inv.add L 1 10 = false from f10]; exact H)⟩
    · show Sx.StepAt _ _ _ _ _ _ _ 2
      intro L A w up hun hd F H
      have f10 : L 10 = false := up 10 2 rfl hun
      rw [f10] at H
      have F := Sx.Fr.to F (kv' := [(3, .pointer (some ⟨g2, 0, none⟩))]) ⟨rfl, trivial⟩
      refine Sx.step_on rfl (Sx.d_load (i := 1) (xs := [.int .u64 ((Wd.hi n).toNat), .int .u64 ((Wd.lo n).toNat)]) rw_24 F H rfl rfl rfl rfl rfl) ?_
      rintro xv w' ⟨hx, rfl⟩
      exact ⟨(fun cv hc => hx.trans (Option.some.inj (Option.some.inj hc))), (by show Sx.Own _ _ _ _; rw [show Inv.add L 2 10 = false from f10]; exact H)⟩
    · show Sx.StepAt _ _ _ _ _ _ _ 3
      intro L A w up hun hd F H
      have f10 : L 10 = false := up 10 3 rfl hun
      rw [f10] at H
      have F := Sx.Fr.to F (kv' := [(11, .agg #[.int .u64 ((Wd.hi 15750249268501108917#128).toNat), .int .u64 ((Wd.lo 15750249268501108917#128).toNat), .int .u64 ((Wd.hi si).toNat), .int .u64 ((Wd.lo si).toNat)]), (12, .agg #[.int .u64 ((Wd.hi n).toNat), .int .u64 ((Wd.lo n).toNat)])]) ⟨rfl, rfl, trivial⟩
      refine Sx.step_on rfl (Sx.d_call (vs := [.agg #[.int .u64 ((Wd.hi 15750249268501108917#128).toNat), .int .u64 ((Wd.lo 15750249268501108917#128).toNat), .int .u64 ((Wd.hi si).toNat), .int .u64 ((Wd.lo si).toNat)], .agg #[.int .u64 ((Wd.hi n).toNat), .int .u64 ((Wd.lo n).toNat)]]) (v := .agg #[.int .u64 ((Wd.hi ((Af.pow ⟨15750249268501108917#128, si⟩ (n).toNat).a)).toNat), .int .u64 ((Wd.lo ((Af.pow ⟨15750249268501108917#128, si⟩ (n).toNat).a)).toNat), .int .u64 ((Wd.hi ((Af.pow ⟨15750249268501108917#128, si⟩ (n).toNat).c)).toNat), .int .u64 ((Wd.lo ((Af.pow ⟨15750249268501108917#128, si⟩ (n).toNat).c)).toNat)]) if_24 F H rfl rfl (apow_c 15750249268501108917#128 si n _)) ?_
      rintro xv w' ⟨hx, H⟩
      exact ⟨(fun cv hc => hx.trans (Option.some.inj (Option.some.inj hc))), (by show Sx.Own _ _ _ _; rw [show Inv.add L 3 10 = false from f10]; exact H)⟩
    · show Sx.StepAt _ _ _ _ _ _ _ 4
      intro L A w up hun hd F H
      have f10 : L 10 = false := up 10 4 rfl hun
      rw [f10] at H
      have F := Sx.Fr.to F (kv' := [(2, .pointer (some ⟨g1, 0, none⟩))]) ⟨rfl, trivial⟩
      refine Sx.step_on rfl (Sx.d_faddr (v := .pointer (some ⟨g1, 0, none⟩)) F rfl rfl (fa_57_0 _ 0 _)) ?_
      rintro xv w' ⟨hx, rfl⟩
      exact ⟨(fun cv hc => hx.trans (Option.some.inj (Option.some.inj hc))), (by show Sx.Own _ _ _ _; rw [show Inv.add L 4 10 = false from f10]; exact H)⟩
    · show Sx.StepAt _ _ _ _ _ _ _ 5
      intro L A w up hun hd F H
      have f10 : L 10 = false := up 10 5 rfl hun
      rw [f10] at H
      have F := Sx.Fr.to F (kv' := [(14, .pointer (some ⟨g1, 0, none⟩))]) ⟨rfl, trivial⟩
      refine Sx.step_on rfl (Sx.d_load (i := 2) (xs := [.int .u64 ((Wd.hi ss).toNat), .int .u64 ((Wd.lo ss).toNat)]) rw_24 F H rfl rfl rfl rfl rfl) ?_
      rintro xv w' ⟨hx, rfl⟩
      exact ⟨(fun cv hc => hx.trans (Option.some.inj (Option.some.inj hc))), (by show Sx.Own _ _ _ _; rw [show Inv.add L 5 10 = false from f10]; exact H)⟩
    · show Sx.StepAt _ _ _ _ _ _ _ 6
      intro L A w up hun hd F H
      have f10 : L 10 = false := up 10 6 rfl hun
      rw [f10] at H
      have F := Sx.Fr.to F (kv' := [(13, .agg #[.int .u64 ((Wd.hi ((Af.pow ⟨15750249268501108917#128, si⟩ (n).toNat).a)).toNat), .int .u64 ((Wd.lo ((Af.pow ⟨15750249268501108917#128, si⟩ (n).toNat).a)).toNat), .int .u64 ((Wd.hi ((Af.pow ⟨15750249268501108917#128, si⟩ (n).toNat).c)).toNat), .int .u64 ((Wd.lo ((Af.pow ⟨15750249268501108917#128, si⟩ (n).toNat).c)).toNat)]), (15, .agg #[.int .u64 ((Wd.hi ss).toNat), .int .u64 ((Wd.lo ss).toNat)])]) ⟨rfl, rfl, trivial⟩
      refine Sx.step_on rfl (Sx.d_call (vs := [.agg #[.int .u64 ((Wd.hi ((Af.pow ⟨15750249268501108917#128, si⟩ (n).toNat).a)).toNat), .int .u64 ((Wd.lo ((Af.pow ⟨15750249268501108917#128, si⟩ (n).toNat).a)).toNat), .int .u64 ((Wd.hi ((Af.pow ⟨15750249268501108917#128, si⟩ (n).toNat).c)).toNat), .int .u64 ((Wd.lo ((Af.pow ⟨15750249268501108917#128, si⟩ (n).toNat).c)).toNat)], .agg #[.int .u64 ((Wd.hi ss).toNat), .int .u64 ((Wd.lo ss).toNat)]]) (v := .agg #[.int .u64 ((Wd.hi (((Af.pow ⟨15750249268501108917#128, si⟩ (n).toNat).a) * ss + ((Af.pow ⟨15750249268501108917#128, si⟩ (n).toNat).c))).toNat), .int .u64 ((Wd.lo (((Af.pow ⟨15750249268501108917#128, si⟩ (n).toNat).a) * ss + ((Af.pow ⟨15750249268501108917#128, si⟩ (n).toNat).c))).toNat)]) if_21 F H rfl rfl (aat_c ((Af.pow ⟨15750249268501108917#128, si⟩ (n).toNat).a) ((Af.pow ⟨15750249268501108917#128, si⟩ (n).toNat).c) ss _)) ?_
      rintro xv w' ⟨hx, H⟩
      exact ⟨(fun cv hc => hx.trans (Option.some.inj (Option.some.inj hc))), (by show Sx.Own _ _ _ _; rw [show Inv.add L 6 10 = false from f10]; exact H)⟩
    · show Sx.StepAt _ _ _ _ _ _ _ 7
      intro L A w up hun hd F H
      have f10 : L 10 = false := up 10 7 rfl hun
      rw [f10] at H
      have F := Sx.Fr.to F (kv' := [(2, .pointer (some ⟨g1, 0, none⟩))]) ⟨rfl, trivial⟩
      refine Sx.step_on rfl (Sx.d_faddr (v := .pointer (some ⟨g1, 2, none⟩)) F rfl rfl (fa_57_1 _ 0 _)) ?_
      rintro xv w' ⟨hx, rfl⟩
      exact ⟨(fun cv hc => hx.trans (Option.some.inj (Option.some.inj hc))), (by show Sx.Own _ _ _ _; rw [show Inv.add L 7 10 = false from f10]; exact H)⟩
    · show Sx.StepAt _ _ _ _ _ _ _ 8
      intro L A w up hun hd F H
      have f10 : L 10 = false := up 10 8 rfl hun
      rw [f10] at H
      have F := Sx.Fr.to F (kv' := [(17, .pointer (some ⟨g1, 2, none⟩))]) ⟨rfl, trivial⟩
      refine Sx.step_on rfl (Sx.d_load (i := 2) (xs := [.int .u64 ((Wd.hi si).toNat), .int .u64 ((Wd.lo si).toNat)]) rw_24 F H rfl rfl rfl rfl rfl) ?_
      rintro xv w' ⟨hx, rfl⟩
      exact ⟨(fun cv hc => hx.trans (Option.some.inj (Option.some.inj hc))), (by show Sx.Own _ _ _ _; rw [show Inv.add L 8 10 = false from f10]; exact H)⟩
    · show Sx.StepAt _ _ _ _ _ _ _ 9
      intro L A w up hun hd F H
      have f10 : L 10 = false := up 10 9 rfl hun
      rw [f10] at H
      have F := Sx.Fr.to F (kv' := [(16, .agg #[.int .u64 ((Wd.hi (((Af.pow ⟨15750249268501108917#128, si⟩ (n).toNat).a) * ss + ((Af.pow ⟨15750249268501108917#128, si⟩ (n).toNat).c))).toNat), .int .u64 ((Wd.lo (((Af.pow ⟨15750249268501108917#128, si⟩ (n).toNat).a) * ss + ((Af.pow ⟨15750249268501108917#128, si⟩ (n).toNat).c))).toNat)]), (18, .agg #[.int .u64 ((Wd.hi si).toNat), .int .u64 ((Wd.lo si).toNat)])]) ⟨rfl, rfl, trivial⟩
      refine Sx.step_on rfl (Sx.d_build (qs := #[(0, .agg #[.int .u64 ((Wd.hi (((Af.pow ⟨15750249268501108917#128, si⟩ (n).toNat).a) * ss + ((Af.pow ⟨15750249268501108917#128, si⟩ (n).toNat).c))).toNat), .int .u64 ((Wd.lo (((Af.pow ⟨15750249268501108917#128, si⟩ (n).toNat).a) * ss + ((Af.pow ⟨15750249268501108917#128, si⟩ (n).toNat).c))).toNat)]), (1, .agg #[.int .u64 ((Wd.hi si).toNat), .int .u64 ((Wd.lo si).toNat)])]) (v := .agg #[.int .u64 ((Wd.hi (((Af.pow ⟨15750249268501108917#128, si⟩ (n).toNat).a) * ss + ((Af.pow ⟨15750249268501108917#128, si⟩ (n).toNat).c))).toNat), .int .u64 ((Wd.lo (((Af.pow ⟨15750249268501108917#128, si⟩ (n).toNat).a) * ss + ((Af.pow ⟨15750249268501108917#128, si⟩ (n).toNat).c))).toNat), .int .u64 ((Wd.hi si).toNat), .int .u64 ((Wd.lo si).toNat)]) F rfl rfl (by kernel_rfl)) ?_
      rintro xv w' ⟨hx, rfl⟩
      exact ⟨(fun cv hc => hx.trans (Option.some.inj (Option.some.inj hc))), (by show Sx.Own _ _ _ _; rw [show Inv.add L 9 10 = false from f10]; exact H)⟩
    · show Sx.StepAt _ _ _ _ _ _ _ 10
      intro L A w up hun hd F H
      have f10 : L 10 = false := hun
      rw [f10] at H
      have F := Sx.Fr.to F (kv' := [(4, .pointer (some ⟨g3, 0, none⟩)), (19, .agg #[.int .u64 ((Wd.hi (((Af.pow ⟨15750249268501108917#128, si⟩ (n).toNat).a) * ss + ((Af.pow ⟨15750249268501108917#128, si⟩ (n).toNat).c))).toNat), .int .u64 ((Wd.lo (((Af.pow ⟨15750249268501108917#128, si⟩ (n).toNat).a) * ss + ((Af.pow ⟨15750249268501108917#128, si⟩ (n).toNat).c))).toNat), .int .u64 ((Wd.hi si).toNat), .int .u64 ((Wd.lo si).toNat)])]) ⟨rfl, rfl, trivial⟩
      refine Sx.step_on rfl (Sx.d_store (i := 0) (xs := [.int .u64 ((Wd.hi (((Af.pow ⟨15750249268501108917#128, si⟩ (n).toNat).a) * ss + ((Af.pow ⟨15750249268501108917#128, si⟩ (n).toNat).c))).toNat), .int .u64 ((Wd.lo (((Af.pow ⟨15750249268501108917#128, si⟩ (n).toNat).a) * ss + ((Af.pow ⟨15750249268501108917#128, si⟩ (n).toNat).c))).toNat), .int .u64 ((Wd.hi si).toNat), .int .u64 ((Wd.lo si).toNat)]) (us := [.int .u64 ((Wd.hi (((Af.pow ⟨15750249268501108917#128, si⟩ (n).toNat).a) * ss + ((Af.pow ⟨15750249268501108917#128, si⟩ (n).toNat).c))).toNat), .int .u64 ((Wd.lo (((Af.pow ⟨15750249268501108917#128, si⟩ (n).toNat).a) * ss + ((Af.pow ⟨15750249268501108917#128, si⟩ (n).toNat).c))).toNat), .int .u64 ((Wd.hi si).toNat), .int .u64 ((Wd.lo si).toNat)]) sz_57 F H rfl rfl rfl rfl rfl rfl rfl (Nat.le_of_ble_eq_true rfl) rfl) ?_
      intro xv w' H
      exact ⟨(fun cv hc => by have h := Option.some.inj hc; cases h), H⟩
    · show Sx.StepAt _ _ _ _ _ _ _ 11
      intro L A w up hun hd F H
      have t10 : L 10 = true := hd 10 rfl
      rw [t10] at H
      have F := Sx.Fr.to F (kv' := []) trivial
      refine Sx.step_on rfl (Sx.d_move F (Or.inr rfl) rfl) ?_
      rintro xv w' ⟨hx, rfl⟩
      exact ⟨(fun cv hc => hx.trans (Option.some.inj (Option.some.inj hc))), (by show Sx.Own _ _ _ _; rw [show Inv.add L 11 10 = true from t10]; exact H)⟩
  · intro L A w hL F H
    have t10 : L 10 = true := hL 10 rfl
    rw [t10] at H
    have F := Sx.Fr.to F (kv' := [(0, .agg #[.int .u64 ((Wd.hi ss).toNat), .int .u64 ((Wd.lo ss).toNat), .int .u64 ((Wd.hi si).toNat), .int .u64 ((Wd.lo si).toNat)]), (1, .agg #[.int .u64 ((Wd.hi n).toNat), .int .u64 ((Wd.lo n).toNat)]), (2, .pointer (some ⟨g1, 0, none⟩)), (4, .pointer (some ⟨g3, 0, none⟩)), (6, .agg #[.int .u64 ((Wd.hi ss).toNat), .int .u64 ((Wd.lo ss).toNat), .int .u64 ((Wd.hi si).toNat), .int .u64 ((Wd.lo si).toNat)]), (7, .bool true), (8, .bool false), (5, .int .i64 0)]) ⟨rfl, rfl, rfl, rfl, rfl, rfl, rfl, rfl, trivial⟩
    refine hK4 _ _ ?_
    refine wp_ret ?_
    try dsimp only [Exit.then, Exit.inBlock, Exit.jump]
    refine Sx.ret2 F Try.results40 (Sx.res_row (i := 0) (xs := [.int .u64 ((Wd.hi (((Af.pow ⟨15750249268501108917#128, si⟩ (n).toNat).a) * ss + ((Af.pow ⟨15750249268501108917#128, si⟩ (n).toNat).c))).toNat), .int .u64 ((Wd.lo (((Af.pow ⟨15750249268501108917#128, si⟩ (n).toNat).a) * ss + ((Af.pow ⟨15750249268501108917#128, si⟩ (n).toNat).c))).toNat), .int .u64 ((Wd.hi si).toNat), .int .u64 ((Wd.lo si).toNat)]) rw_57 F H rfl rfl rfl rfl) (Sx.res_tmp (v := .int .i64 0) F rfl) ⟨?_, H.below⟩
    rfl
set_option maxRecDepth 100000 in
theorem pjump_no (ss si n : BitVec 128) (ho : Af.odd si = false) (w0 : World) : Calls Try.prog 40 #[.agg #[.int .u64 ((Wd.hi ss).toNat), .int .u64 ((Wd.lo ss).toNat), .int .u64 ((Wd.hi si).toNat), .int .u64 ((Wd.lo si).toNat)], .agg #[.int .u64 ((Wd.hi n).toNat), .int .u64 ((Wd.lo n).toNat)]] w0 fun e w' => e = .returned (.tuple #[.agg #[.int .u64 ((Wd.hi 0#128).toNat), .int .u64 ((Wd.lo 0#128).toNat), .int .u64 ((Wd.hi 0#128).toNat), .int .u64 ((Wd.lo 0#128).toNat)], .int .i64 3]) ∧ Below w0.heap.size w0 w' := by
  refine Sx.enter (args := [.agg #[.int .u64 ((Wd.hi ss).toNat), .int .u64 ((Wd.lo ss).toNat), .int .u64 ((Wd.hi si).toNat), .int .u64 ((Wd.lo si).toNat)], .agg #[.int .u64 ((Wd.hi n).toNat), .int .u64 ((Wd.lo n).toNat)]]) Try.func40 rfl Try.ntmps40 (Nat.le_of_ble_eq_true rfl) (fun A F => ?_)
  have H := Sx.Own.start w0
  refine Sx.seq (fun K1 hK1 => ?_)
  refine Sx.plain ?_
  refine Sx.sb F (Sx.d_box F H rfl rfl [.int .u64 ((Wd.hi ss).toNat), .int .u64 ((Wd.lo ss).toNat), .int .u64 ((Wd.hi si).toNat), .int .u64 ((Wd.lo si).toNat)] rfl) (Sx.wanted_none rfl _) rfl (by decide) (fun g1 A w F H => ?_)
  refine Sx.sb F (Sx.d_box F H rfl rfl [.int .u64 ((Wd.hi n).toNat), .int .u64 ((Wd.lo n).toNat)] rfl) (Sx.wanted_none rfl _) rfl (by decide) (fun g2 A w F H => ?_)
  refine Sx.sb F (Sx.d_alloc H rfl [.int .u64 ((Wd.hi 0#128).toNat), .int .u64 ((Wd.lo 0#128).toNat), .int .u64 ((Wd.hi 0#128).toNat), .int .u64 ((Wd.lo 0#128).toNat)] zero_57) (Sx.wanted_none rfl _) rfl (by decide) (fun g3 A w F H => ?_)
  refine Sx.sv F (Sx.d_move F (Or.inr rfl) rfl) (Sx.wanted_none rfl _) rfl (by decide) (fun A F => ?_)
  refine Sx.nil ?_
  refine hK1 _ _ ?_
  refine Sx.seq (fun K2 hK2 => ?_)
  refine Sx.seq (fun K3 hK3 => ?_)
  refine Sx.plain ?_
  refine Sx.sv F (Sx.d_load (i := 2) (xs := [.int .u64 ((Wd.hi ss).toNat), .int .u64 ((Wd.lo ss).toNat), .int .u64 ((Wd.hi si).toNat), .int .u64 ((Wd.lo si).toNat)]) rw_57 F H rfl rfl rfl rfl rfl) (Sx.wanted_none rfl _) rfl (by decide) (fun A F => ?_)
  refine Sx.sw F (Sx.d_call (vs := [.agg #[.int .u64 ((Wd.hi ss).toNat), .int .u64 ((Wd.lo ss).toNat), .int .u64 ((Wd.hi si).toNat), .int .u64 ((Wd.lo si).toNat)]]) (v := .bool false) if_38 F H rfl rfl (Calls.val (pright_c ss si _) rfl (congrArg Value.bool (ho)))) (Sx.wanted_none rfl _) rfl (by decide) (fun A w F H => ?_)
  refine Sx.sv F (Sx.d_un (v := .bool true) F rfl rfl rfl) (Sx.wanted_none rfl _) rfl (by decide) (fun A F => ?_)
  refine Sx.nil ?_
  refine hK3 _ _ ?_
  refine Sx.condT F rfl ?_
  refine Sx.seq (fun K4 hK4 => ?_)
  refine Sx.plain ?_
  refine Sx.sv F (Sx.d_build (qs := #[]) (v := .agg #[.int .u64 ((Wd.hi 0#128).toNat), .int .u64 ((Wd.lo 0#128).toNat), .int .u64 ((Wd.hi 0#128).toNat), .int .u64 ((Wd.lo 0#128).toNat)]) F rfl rfl (by kernel_rfl)) (Sx.wanted_none rfl _) rfl (by decide) (fun A F => ?_)
  refine Sx.ss F (Sx.d_store (i := 0) (xs := [.int .u64 ((Wd.hi 0#128).toNat), .int .u64 ((Wd.lo 0#128).toNat), .int .u64 ((Wd.hi 0#128).toNat), .int .u64 ((Wd.lo 0#128).toNat)]) (us := [.int .u64 ((Wd.hi 0#128).toNat), .int .u64 ((Wd.lo 0#128).toNat), .int .u64 ((Wd.hi 0#128).toNat), .int .u64 ((Wd.lo 0#128).toNat)]) sz_57 F H rfl rfl rfl rfl rfl rfl rfl (Nat.le_of_ble_eq_true rfl) rfl) (Sx.wanted_none rfl _) rfl (fun A w F (H : Sx.Own w0 _ [(true, g3, [.int .u64 ((Wd.hi 0#128).toNat), .int .u64 ((Wd.lo 0#128).toNat), .int .u64 ((Wd.hi 0#128).toNat), .int .u64 ((Wd.lo 0#128).toNat)]), (true, g2, [.int .u64 ((Wd.hi n).toNat), .int .u64 ((Wd.lo n).toNat)]), (true, g1, [.int .u64 ((Wd.hi ss).toNat), .int .u64 ((Wd.lo ss).toNat), .int .u64 ((Wd.hi si).toNat), .int .u64 ((Wd.lo si).toNat)])] []) => ?_)
  refine Sx.sv F (Sx.d_move F (Or.inr rfl) rfl) (Sx.wanted_none rfl _) rfl (by decide) (fun A F => ?_)
  refine Sx.nil ?_
  refine hK4 _ _ ?_
  refine wp_ret ?_
  try dsimp only [Exit.then, Exit.inBlock, Exit.jump]
  refine Sx.ret2 F Try.results40 (Sx.res_row (i := 0) (xs := [.int .u64 ((Wd.hi 0#128).toNat), .int .u64 ((Wd.lo 0#128).toNat), .int .u64 ((Wd.hi 0#128).toNat), .int .u64 ((Wd.lo 0#128).toNat)]) rw_57 F H rfl rfl rfl rfl) (Sx.res_tmp (v := .int .i64 3) F rfl) ⟨?_, H.below⟩
  rfl
end Go.Proofs.Ytpbdffmgendboaa
