/- pcg.Words walked. -/
import Derived.Test.YtpbdffmgendboaaPc
namespace Go.Proofs.Ytpbdffmgendboaa
open Go Go.RowKit
namespace Pc
def its (i : BitVec 128) : Nat → BitVec 128 → BitVec 128
  | 0, s => s
  | n + 1, s => (step ⟨its i n s, i⟩).s
def words (i : BitVec 128) (n : Nat) (s : BitVec 128) : List (BitVec 64) := (List.range n).map fun k => word (its i k s)
theorem words_succ (i : BitVec 128) (n : Nat) (s : BitVec 128) : words i (n + 1) s = words i n s ++ [word (its i n s)] := by simp [words, List.range_succ]
theorem words_length (i : BitVec 128) (n : Nat) (s : BitVec 128) : (words i n s).length = n := by simp [words]
end Pc
set_option maxRecDepth 100000 in
theorem pwords_no (ss si : BitVec 128) (many : Int) (ho : Af.odd si = false) (w0 : World) : Calls Try.prog 39 #[.agg #[.int .u64 ((Wd.hi ss).toNat), .int .u64 ((Wd.lo ss).toNat), .int .u64 ((Wd.hi si).toNat), .int .u64 ((Wd.lo si).toNat)], .int .i64 many] w0 fun e w' => e = .returned (.tuple #[.slice none 0 0, .agg #[.int .u64 ((Wd.hi 0#128).toNat), .int .u64 ((Wd.lo 0#128).toNat), .int .u64 ((Wd.hi 0#128).toNat), .int .u64 ((Wd.lo 0#128).toNat)], .int .i64 3]) ∧ Below w0.heap.size w0 w' := by
  refine Sx.enter (args := [.agg #[.int .u64 ((Wd.hi ss).toNat), .int .u64 ((Wd.lo ss).toNat), .int .u64 ((Wd.hi si).toNat), .int .u64 ((Wd.lo si).toNat)], .int .i64 many]) Try.func39 rfl Try.ntmps39 (Nat.le_of_ble_eq_true rfl) (fun A F => ?_)
  have H := Sx.Own.start w0
  refine Sx.seq (fun K1 hK1 => ?_)
  refine Sx.plain ?_
  refine Sx.sb F (Sx.d_box F H rfl rfl [.int .u64 ((Wd.hi ss).toNat), .int .u64 ((Wd.lo ss).toNat), .int .u64 ((Wd.hi si).toNat), .int .u64 ((Wd.lo si).toNat)] rfl) (Sx.wanted_none rfl _) rfl (by decide) (fun g1 A w F H => ?_)
  refine Sx.sv F (Sx.d_move F (Or.inr rfl) rfl) (Sx.wanted_none rfl _) rfl (by decide) (fun A F => ?_)
  refine Sx.sb F (Sx.d_alloc H rfl [.int .u64 ((Wd.hi 0#128).toNat), .int .u64 ((Wd.lo 0#128).toNat), .int .u64 ((Wd.hi 0#128).toNat), .int .u64 ((Wd.lo 0#128).toNat)] zero_57) (Sx.wanted_none rfl _) rfl (by decide) (fun g2 A w F H => ?_)
  refine Sx.sv F (Sx.d_move F (Or.inr rfl) rfl) (Sx.wanted_none rfl _) rfl (by decide) (fun A F => ?_)
  refine Sx.nil ?_
  refine hK1 _ _ ?_
  refine Sx.seq (fun K2 hK2 => ?_)
  refine wp_block ?_
  refine Sx.seq (fun K3 hK3 => ?_)
  refine Sx.plain ?_
  refine Sx.sv F (Sx.d_load (i := 1) (xs := [.int .u64 ((Wd.hi ss).toNat), .int .u64 ((Wd.lo ss).toNat), .int .u64 ((Wd.hi si).toNat), .int .u64 ((Wd.lo si).toNat)]) rw_57 F H rfl rfl rfl rfl rfl) (Sx.wanted_none rfl _) rfl (by decide) (fun A F => ?_)
  refine Sx.sw F (Sx.d_call (vs := [.agg #[.int .u64 ((Wd.hi ss).toNat), .int .u64 ((Wd.lo ss).toNat), .int .u64 ((Wd.hi si).toNat), .int .u64 ((Wd.lo si).toNat)]]) (v := .bool false) if_38 F H rfl rfl (Calls.val (pright_c ss si _) rfl (congrArg Value.bool (ho)))) (Sx.wanted_none rfl _) rfl (by decide) (fun A w F H => ?_)
  refine Sx.sv F (Sx.d_un (v := .bool true) F rfl rfl rfl) (Sx.wanted_none rfl _) rfl (by decide) (fun A F => ?_)
  refine Sx.sv F (Sx.d_move F (Or.inr rfl) rfl) (Sx.wanted_none rfl _) rfl (by decide) (fun A F => ?_)
  refine Sx.nil ?_
  refine hK3 _ _ ?_
  refine Sx.condT F rfl ?_
  refine Sx.seq (fun K4 hK4 => ?_)
  refine Sx.plain ?_
  refine Sx.sv F (Sx.d_build (qs := #[]) (v := .agg #[.int .u64 ((Wd.hi 0#128).toNat), .int .u64 ((Wd.lo 0#128).toNat), .int .u64 ((Wd.hi 0#128).toNat), .int .u64 ((Wd.lo 0#128).toNat)]) F rfl rfl (by kernel_rfl)) (Sx.wanted_none rfl _) rfl (by decide) (fun A F => ?_)
  refine Sx.sv F (Sx.d_move F (Or.inr rfl) rfl) (Sx.wanted_none rfl _) rfl (by decide) (fun A F => ?_)
  refine Sx.ss F (Sx.d_store (i := 0) (xs := [.int .u64 ((Wd.hi 0#128).toNat), .int .u64 ((Wd.lo 0#128).toNat), .int .u64 ((Wd.hi 0#128).toNat), .int .u64 ((Wd.lo 0#128).toNat)]) (us := [.int .u64 ((Wd.hi 0#128).toNat), .int .u64 ((Wd.lo 0#128).toNat), .int .u64 ((Wd.hi 0#128).toNat), .int .u64 ((Wd.lo 0#128).toNat)]) sz_57 F H rfl rfl rfl rfl rfl rfl rfl (Nat.le_of_ble_eq_true rfl) rfl) (Sx.wanted_none rfl _) rfl (fun A w F (H : Sx.Own w0 _ [(true, g2, [.int .u64 ((Wd.hi 0#128).toNat), .int .u64 ((Wd.lo 0#128).toNat), .int .u64 ((Wd.hi 0#128).toNat), .int .u64 ((Wd.lo 0#128).toNat)]), (true, g1, [.int .u64 ((Wd.hi ss).toNat), .int .u64 ((Wd.lo ss).toNat), .int .u64 ((Wd.hi si).toNat), .int .u64 ((Wd.lo si).toNat)])] []) => ?_)
  refine Sx.sv F (Sx.d_move F (Or.inr rfl) rfl) (Sx.wanted_none rfl _) rfl (by decide) (fun A F => ?_)
  refine Sx.nil ?_
  refine hK4 _ _ ?_
  refine wp_ret ?_
  try dsimp only [Exit.then, Exit.inBlock, Exit.jump]
  refine Sx.ret3 F Try.results39 (Sx.res_tmp (v := .slice none 0 0) F rfl) (Sx.res_row (i := 0) (xs := [.int .u64 ((Wd.hi 0#128).toNat), .int .u64 ((Wd.lo 0#128).toNat), .int .u64 ((Wd.hi 0#128).toNat), .int .u64 ((Wd.lo 0#128).toNat)]) rw_57 F H rfl rfl rfl rfl) (Sx.res_tmp (v := .int .i64 3) F rfl) ⟨?_, H.below⟩
  rfl
set_option maxRecDepth 100000 in
theorem pwords_lo (ss si : BitVec 128) (many : Int) (ho : Af.odd si = true) (hm : many < 0) (w0 : World) : Calls Try.prog 39 #[.agg #[.int .u64 ((Wd.hi ss).toNat), .int .u64 ((Wd.lo ss).toNat), .int .u64 ((Wd.hi si).toNat), .int .u64 ((Wd.lo si).toNat)], .int .i64 many] w0 fun e w' => e = .returned (.tuple #[.slice none 0 0, .agg #[.int .u64 ((Wd.hi 0#128).toNat), .int .u64 ((Wd.lo 0#128).toNat), .int .u64 ((Wd.hi 0#128).toNat), .int .u64 ((Wd.lo 0#128).toNat)], .int .i64 1]) ∧ Below w0.heap.size w0 w' := by
  refine Sx.enter (args := [.agg #[.int .u64 ((Wd.hi ss).toNat), .int .u64 ((Wd.lo ss).toNat), .int .u64 ((Wd.hi si).toNat), .int .u64 ((Wd.lo si).toNat)], .int .i64 many]) Try.func39 rfl Try.ntmps39 (Nat.le_of_ble_eq_true rfl) (fun A F => ?_)
  have H := Sx.Own.start w0
  refine Sx.seq (fun K1 hK1 => ?_)
  refine Sx.plain ?_
  refine Sx.sb F (Sx.d_box F H rfl rfl [.int .u64 ((Wd.hi ss).toNat), .int .u64 ((Wd.lo ss).toNat), .int .u64 ((Wd.hi si).toNat), .int .u64 ((Wd.lo si).toNat)] rfl) (Sx.wanted_none rfl _) rfl (by decide) (fun g1 A w F H => ?_)
  refine Sx.sv F (Sx.d_move F (Or.inr rfl) rfl) (Sx.wanted_none rfl _) rfl (by decide) (fun A F => ?_)
  refine Sx.sb F (Sx.d_alloc H rfl [.int .u64 ((Wd.hi 0#128).toNat), .int .u64 ((Wd.lo 0#128).toNat), .int .u64 ((Wd.hi 0#128).toNat), .int .u64 ((Wd.lo 0#128).toNat)] zero_57) (Sx.wanted_none rfl _) rfl (by decide) (fun g2 A w F H => ?_)
  refine Sx.sv F (Sx.d_move F (Or.inr rfl) rfl) (Sx.wanted_none rfl _) rfl (by decide) (fun A F => ?_)
  refine Sx.nil ?_
  refine hK1 _ _ ?_
  refine Sx.seq (fun K2 hK2 => ?_)
  refine wp_block ?_
  refine Sx.seq (fun K3 hK3 => ?_)
  refine Sx.plain ?_
  refine Sx.sv F (Sx.d_load (i := 1) (xs := [.int .u64 ((Wd.hi ss).toNat), .int .u64 ((Wd.lo ss).toNat), .int .u64 ((Wd.hi si).toNat), .int .u64 ((Wd.lo si).toNat)]) rw_57 F H rfl rfl rfl rfl rfl) (Sx.wanted_none rfl _) rfl (by decide) (fun A F => ?_)
  refine Sx.sw F (Sx.d_call (vs := [.agg #[.int .u64 ((Wd.hi ss).toNat), .int .u64 ((Wd.lo ss).toNat), .int .u64 ((Wd.hi si).toNat), .int .u64 ((Wd.lo si).toNat)]]) (v := .bool true) if_38 F H rfl rfl (Calls.val (pright_c ss si _) rfl (congrArg Value.bool (ho)))) (Sx.wanted_none rfl _) rfl (by decide) (fun A w F H => ?_)
  refine Sx.sv F (Sx.d_un (v := .bool false) F rfl rfl rfl) (Sx.wanted_none rfl _) rfl (by decide) (fun A F => ?_)
  refine Sx.sv F (Sx.d_move F (Or.inr rfl) rfl) (Sx.wanted_none rfl _) rfl (by decide) (fun A F => ?_)
  refine Sx.nil ?_
  refine hK3 _ _ ?_
  refine Sx.condF F rfl ?_
  refine Sx.seq (fun K4 hK4 => ?_)
  refine Sx.plain ?_
  refine Sx.sv F (Sx.d_move F (Or.inl rfl) rfl) (Sx.wanted_none rfl _) rfl (by decide) (fun A F => ?_)
  refine Sx.sv F (Sx.d_bin (v := .bool true) F rfl rfl rfl (Sx.i_lt (decide_eq_true hm))) (Sx.wanted_none rfl _) rfl (by decide) (fun A F => ?_)
  refine Sx.sv F (Sx.d_move F (Or.inl rfl) rfl) (Sx.wanted_none rfl _) rfl (by decide) (fun A F => ?_)
  refine Sx.su F (Sx.wanted_off rfl (Sx.guard_known (d := 16) (b := true) F rfl rfl) rfl) rfl (by decide) (fun A F => ?_)
  refine Sx.su F (Sx.wanted_off rfl (Sx.guard_known (d := 16) (b := true) F rfl rfl) rfl) rfl (by decide) (fun A F => ?_)
  refine Sx.sv F (Sx.d_pickT (v := .bool true) F rfl rfl rfl) (Sx.wanted_none rfl _) rfl (by decide) (fun A F => ?_)
  refine Sx.sv F (Sx.d_move F (Or.inr rfl) rfl) (Sx.wanted_none rfl _) rfl (by decide) (fun A F => ?_)
  refine Sx.nil ?_
  refine hK4 _ _ ?_
  refine Sx.condT F rfl ?_
  refine Sx.seq (fun K5 hK5 => ?_)
  refine Sx.plain ?_
  refine Sx.sv F (Sx.d_build (qs := #[]) (v := .agg #[.int .u64 ((Wd.hi 0#128).toNat), .int .u64 ((Wd.lo 0#128).toNat), .int .u64 ((Wd.hi 0#128).toNat), .int .u64 ((Wd.lo 0#128).toNat)]) F rfl rfl (by kernel_rfl)) (Sx.wanted_none rfl _) rfl (by decide) (fun A F => ?_)
  refine Sx.sv F (Sx.d_move F (Or.inr rfl) rfl) (Sx.wanted_none rfl _) rfl (by decide) (fun A F => ?_)
  refine Sx.ss F (Sx.d_store (i := 0) (xs := [.int .u64 ((Wd.hi 0#128).toNat), .int .u64 ((Wd.lo 0#128).toNat), .int .u64 ((Wd.hi 0#128).toNat), .int .u64 ((Wd.lo 0#128).toNat)]) (us := [.int .u64 ((Wd.hi 0#128).toNat), .int .u64 ((Wd.lo 0#128).toNat), .int .u64 ((Wd.hi 0#128).toNat), .int .u64 ((Wd.lo 0#128).toNat)]) sz_57 F H rfl rfl rfl rfl rfl rfl rfl (Nat.le_of_ble_eq_true rfl) rfl) (Sx.wanted_none rfl _) rfl (fun A w F (H : Sx.Own w0 _ [(true, g2, [.int .u64 ((Wd.hi 0#128).toNat), .int .u64 ((Wd.lo 0#128).toNat), .int .u64 ((Wd.hi 0#128).toNat), .int .u64 ((Wd.lo 0#128).toNat)]), (true, g1, [.int .u64 ((Wd.hi ss).toNat), .int .u64 ((Wd.lo ss).toNat), .int .u64 ((Wd.hi si).toNat), .int .u64 ((Wd.lo si).toNat)])] []) => ?_)
  refine Sx.sv F (Sx.d_move F (Or.inr rfl) rfl) (Sx.wanted_none rfl _) rfl (by decide) (fun A F => ?_)
  refine Sx.nil ?_
  refine hK5 _ _ ?_
  refine wp_ret ?_
  try dsimp only [Exit.then, Exit.inBlock, Exit.jump]
  refine Sx.ret3 F Try.results39 (Sx.res_tmp (v := .slice none 0 0) F rfl) (Sx.res_row (i := 0) (xs := [.int .u64 ((Wd.hi 0#128).toNat), .int .u64 ((Wd.lo 0#128).toNat), .int .u64 ((Wd.hi 0#128).toNat), .int .u64 ((Wd.lo 0#128).toNat)]) rw_57 F H rfl rfl rfl rfl) (Sx.res_tmp (v := .int .i64 1) F rfl) ⟨?_, H.below⟩
  rfl
set_option maxRecDepth 100000 in
theorem pwords_hi (ss si : BitVec 128) (many : Int) (ho : Af.odd si = true) (hm : 256 < many) (w0 : World) : Calls Try.prog 39 #[.agg #[.int .u64 ((Wd.hi ss).toNat), .int .u64 ((Wd.lo ss).toNat), .int .u64 ((Wd.hi si).toNat), .int .u64 ((Wd.lo si).toNat)], .int .i64 many] w0 fun e w' => e = .returned (.tuple #[.slice none 0 0, .agg #[.int .u64 ((Wd.hi 0#128).toNat), .int .u64 ((Wd.lo 0#128).toNat), .int .u64 ((Wd.hi 0#128).toNat), .int .u64 ((Wd.lo 0#128).toNat)], .int .i64 1]) ∧ Below w0.heap.size w0 w' := by
  refine Sx.enter (args := [.agg #[.int .u64 ((Wd.hi ss).toNat), .int .u64 ((Wd.lo ss).toNat), .int .u64 ((Wd.hi si).toNat), .int .u64 ((Wd.lo si).toNat)], .int .i64 many]) Try.func39 rfl Try.ntmps39 (Nat.le_of_ble_eq_true rfl) (fun A F => ?_)
  have H := Sx.Own.start w0
  refine Sx.seq (fun K1 hK1 => ?_)
  refine Sx.plain ?_
  refine Sx.sb F (Sx.d_box F H rfl rfl [.int .u64 ((Wd.hi ss).toNat), .int .u64 ((Wd.lo ss).toNat), .int .u64 ((Wd.hi si).toNat), .int .u64 ((Wd.lo si).toNat)] rfl) (Sx.wanted_none rfl _) rfl (by decide) (fun g1 A w F H => ?_)
  refine Sx.sv F (Sx.d_move F (Or.inr rfl) rfl) (Sx.wanted_none rfl _) rfl (by decide) (fun A F => ?_)
  refine Sx.sb F (Sx.d_alloc H rfl [.int .u64 ((Wd.hi 0#128).toNat), .int .u64 ((Wd.lo 0#128).toNat), .int .u64 ((Wd.hi 0#128).toNat), .int .u64 ((Wd.lo 0#128).toNat)] zero_57) (Sx.wanted_none rfl _) rfl (by decide) (fun g2 A w F H => ?_)
  refine Sx.sv F (Sx.d_move F (Or.inr rfl) rfl) (Sx.wanted_none rfl _) rfl (by decide) (fun A F => ?_)
  refine Sx.nil ?_
  refine hK1 _ _ ?_
  refine Sx.seq (fun K2 hK2 => ?_)
  refine wp_block ?_
  refine Sx.seq (fun K3 hK3 => ?_)
  refine Sx.plain ?_
  refine Sx.sv F (Sx.d_load (i := 1) (xs := [.int .u64 ((Wd.hi ss).toNat), .int .u64 ((Wd.lo ss).toNat), .int .u64 ((Wd.hi si).toNat), .int .u64 ((Wd.lo si).toNat)]) rw_57 F H rfl rfl rfl rfl rfl) (Sx.wanted_none rfl _) rfl (by decide) (fun A F => ?_)
  refine Sx.sw F (Sx.d_call (vs := [.agg #[.int .u64 ((Wd.hi ss).toNat), .int .u64 ((Wd.lo ss).toNat), .int .u64 ((Wd.hi si).toNat), .int .u64 ((Wd.lo si).toNat)]]) (v := .bool true) if_38 F H rfl rfl (Calls.val (pright_c ss si _) rfl (congrArg Value.bool (ho)))) (Sx.wanted_none rfl _) rfl (by decide) (fun A w F H => ?_)
  refine Sx.sv F (Sx.d_un (v := .bool false) F rfl rfl rfl) (Sx.wanted_none rfl _) rfl (by decide) (fun A F => ?_)
  refine Sx.sv F (Sx.d_move F (Or.inr rfl) rfl) (Sx.wanted_none rfl _) rfl (by decide) (fun A F => ?_)
  refine Sx.nil ?_
  refine hK3 _ _ ?_
  refine Sx.condF F rfl ?_
  refine Sx.seq (fun K4 hK4 => ?_)
  refine Sx.plain ?_
  refine Sx.sv F (Sx.d_move F (Or.inl rfl) rfl) (Sx.wanted_none rfl _) rfl (by decide) (fun A F => ?_)
  refine Sx.sv F (Sx.d_bin (v := .bool false) F rfl rfl rfl (Sx.i_lt (decide_eq_false (by omega)))) (Sx.wanted_none rfl _) rfl (by decide) (fun A F => ?_)
  refine Sx.sv F (Sx.d_move F (Or.inl rfl) rfl) (Sx.wanted_none rfl _) rfl (by decide) (fun A F => ?_)
  refine Sx.sv F (Sx.d_move F (Or.inl rfl) rfl) (Sx.wanted_on rfl (Sx.guard_known (d := 16) (b := false) F rfl rfl) rfl) rfl (by decide) (fun A F => ?_)
  refine Sx.sv F (Sx.d_bin (v := .bool true) F rfl rfl rfl (Sx.i_gt (decide_eq_true (by omega)))) (Sx.wanted_on rfl (Sx.guard_known (d := 16) (b := false) F rfl rfl) rfl) rfl (by decide) (fun A F => ?_)
  refine Sx.sv F (Sx.d_pickF (v := .bool true) F rfl rfl rfl) (Sx.wanted_none rfl _) rfl (by decide) (fun A F => ?_)
  refine Sx.sv F (Sx.d_move F (Or.inr rfl) rfl) (Sx.wanted_none rfl _) rfl (by decide) (fun A F => ?_)
  refine Sx.nil ?_
  refine hK4 _ _ ?_
  refine Sx.condT F rfl ?_
  refine Sx.seq (fun K5 hK5 => ?_)
  refine Sx.plain ?_
  refine Sx.sv F (Sx.d_build (qs := #[]) (v := .agg #[.int .u64 ((Wd.hi 0#128).toNat), .int .u64 ((Wd.lo 0#128).toNat), .int .u64 ((Wd.hi 0#128).toNat), .int .u64 ((Wd.lo 0#128).toNat)]) F rfl rfl (by kernel_rfl)) (Sx.wanted_none rfl _) rfl (by decide) (fun A F => ?_)
  refine Sx.sv F (Sx.d_move F (Or.inr rfl) rfl) (Sx.wanted_none rfl _) rfl (by decide) (fun A F => ?_)
  refine Sx.ss F (Sx.d_store (i := 0) (xs := [.int .u64 ((Wd.hi 0#128).toNat), .int .u64 ((Wd.lo 0#128).toNat), .int .u64 ((Wd.hi 0#128).toNat), .int .u64 ((Wd.lo 0#128).toNat)]) (us := [.int .u64 ((Wd.hi 0#128).toNat), .int .u64 ((Wd.lo 0#128).toNat), .int .u64 ((Wd.hi 0#128).toNat), .int .u64 ((Wd.lo 0#128).toNat)]) sz_57 F H rfl rfl rfl rfl rfl rfl rfl (Nat.le_of_ble_eq_true rfl) rfl) (Sx.wanted_none rfl _) rfl (fun A w F (H : Sx.Own w0 _ [(true, g2, [.int .u64 ((Wd.hi 0#128).toNat), .int .u64 ((Wd.lo 0#128).toNat), .int .u64 ((Wd.hi 0#128).toNat), .int .u64 ((Wd.lo 0#128).toNat)]), (true, g1, [.int .u64 ((Wd.hi ss).toNat), .int .u64 ((Wd.lo ss).toNat), .int .u64 ((Wd.hi si).toNat), .int .u64 ((Wd.lo si).toNat)])] []) => ?_)
  refine Sx.sv F (Sx.d_move F (Or.inr rfl) rfl) (Sx.wanted_none rfl _) rfl (by decide) (fun A F => ?_)
  refine Sx.nil ?_
  refine hK5 _ _ ?_
  refine wp_ret ?_
  try dsimp only [Exit.then, Exit.inBlock, Exit.jump]
  refine Sx.ret3 F Try.results39 (Sx.res_tmp (v := .slice none 0 0) F rfl) (Sx.res_row (i := 0) (xs := [.int .u64 ((Wd.hi 0#128).toNat), .int .u64 ((Wd.lo 0#128).toNat), .int .u64 ((Wd.hi 0#128).toNat), .int .u64 ((Wd.lo 0#128).toNat)]) rw_57 F H rfl rfl rfl rfl) (Sx.res_tmp (v := .int .i64 1) F rfl) ⟨?_, H.below⟩
  rfl
set_option maxRecDepth 100000 in
theorem pwords_ok (ss si : BitVec 128) (n : Nat) (ho : Af.odd si = true) (hn : n ≤ 256) (w0 : World) : Calls Try.prog 39 #[.agg #[.int .u64 ((Wd.hi ss).toNat), .int .u64 ((Wd.lo ss).toNat), .int .u64 ((Wd.hi si).toNat), .int .u64 ((Wd.lo si).toNat)], .int .i64 n] w0 fun e w' => ∃ v, e = .returned (.tuple #[v, .agg #[.int .u64 ((Wd.hi (Pc.its si n ss)).toNat), .int .u64 ((Wd.lo (Pc.its si n ss)).toNat), .int .u64 ((Wd.hi si).toNat), .int .u64 ((Wd.lo si).toNat)], .int .i64 0]) ∧ w'.ownsRow w0.heap.size 22 1 v n (u64s (Pc.words si n ss)) ∧ Below w0.heap.size w0 w' := by
  refine Sx.enter (args := [.agg #[.int .u64 ((Wd.hi ss).toNat), .int .u64 ((Wd.lo ss).toNat), .int .u64 ((Wd.hi si).toNat), .int .u64 ((Wd.lo si).toNat)], .int .i64 n]) Try.func39 rfl Try.ntmps39 (Nat.le_of_ble_eq_true rfl) (fun A F => ?_)
  have H := Sx.Own.start w0
  refine Sx.seq (fun K1 hK1 => ?_)
  refine Sx.plain ?_
  refine Sx.sb F (Sx.d_box F H rfl rfl [.int .u64 ((Wd.hi ss).toNat), .int .u64 ((Wd.lo ss).toNat), .int .u64 ((Wd.hi si).toNat), .int .u64 ((Wd.lo si).toNat)] rfl) (Sx.wanted_none rfl _) rfl (by decide) (fun g1 A w F H => ?_)
  refine Sx.sv F (Sx.d_move F (Or.inr rfl) rfl) (Sx.wanted_none rfl _) rfl (by decide) (fun A F => ?_)
  refine Sx.sb F (Sx.d_alloc H rfl [.int .u64 ((Wd.hi 0#128).toNat), .int .u64 ((Wd.lo 0#128).toNat), .int .u64 ((Wd.hi 0#128).toNat), .int .u64 ((Wd.lo 0#128).toNat)] zero_57) (Sx.wanted_none rfl _) rfl (by decide) (fun g2 A w F H => ?_)
  refine Sx.sv F (Sx.d_move F (Or.inr rfl) rfl) (Sx.wanted_none rfl _) rfl (by decide) (fun A F => ?_)
  refine Sx.nil ?_
  refine hK1 _ _ ?_
  refine Sx.seq (fun K2 hK2 => ?_)
  refine wp_block ?_
  refine Sx.seq (fun K3 hK3 => ?_)
  refine Sx.plain ?_
  refine Sx.sv F (Sx.d_load (i := 1) (xs := [.int .u64 ((Wd.hi ss).toNat), .int .u64 ((Wd.lo ss).toNat), .int .u64 ((Wd.hi si).toNat), .int .u64 ((Wd.lo si).toNat)]) rw_57 F H rfl rfl rfl rfl rfl) (Sx.wanted_none rfl _) rfl (by decide) (fun A F => ?_)
  refine Sx.sw F (Sx.d_call (vs := [.agg #[.int .u64 ((Wd.hi ss).toNat), .int .u64 ((Wd.lo ss).toNat), .int .u64 ((Wd.hi si).toNat), .int .u64 ((Wd.lo si).toNat)]]) (v := .bool true) if_38 F H rfl rfl (Calls.val (pright_c ss si _) rfl (congrArg Value.bool (ho)))) (Sx.wanted_none rfl _) rfl (by decide) (fun A w F H => ?_)
  refine Sx.sv F (Sx.d_un (v := .bool false) F rfl rfl rfl) (Sx.wanted_none rfl _) rfl (by decide) (fun A F => ?_)
  refine Sx.sv F (Sx.d_move F (Or.inr rfl) rfl) (Sx.wanted_none rfl _) rfl (by decide) (fun A F => ?_)
  refine Sx.nil ?_
  refine hK3 _ _ ?_
  refine Sx.condF F rfl ?_
  refine Sx.seq (fun K4 hK4 => ?_)
  refine Sx.plain ?_
  refine Sx.sv F (Sx.d_move F (Or.inl rfl) rfl) (Sx.wanted_none rfl _) rfl (by decide) (fun A F => ?_)
  refine Sx.sv F (Sx.d_bin (v := .bool false) F rfl rfl rfl (Sx.i_lt (decide_eq_false (by omega)))) (Sx.wanted_none rfl _) rfl (by decide) (fun A F => ?_)
  refine Sx.sv F (Sx.d_move F (Or.inl rfl) rfl) (Sx.wanted_none rfl _) rfl (by decide) (fun A F => ?_)
  refine Sx.sv F (Sx.d_move F (Or.inl rfl) rfl) (Sx.wanted_on rfl (Sx.guard_known (d := 16) (b := false) F rfl rfl) rfl) rfl (by decide) (fun A F => ?_)
  refine Sx.sv F (Sx.d_bin (v := .bool false) F rfl rfl rfl (Sx.i_gt (decide_eq_false (by omega)))) (Sx.wanted_on rfl (Sx.guard_known (d := 16) (b := false) F rfl rfl) rfl) rfl (by decide) (fun A F => ?_)
  refine Sx.sv F (Sx.d_pickF (v := .bool false) F rfl rfl rfl) (Sx.wanted_none rfl _) rfl (by decide) (fun A F => ?_)
  refine Sx.sv F (Sx.d_move F (Or.inr rfl) rfl) (Sx.wanted_none rfl _) rfl (by decide) (fun A F => ?_)
  refine Sx.nil ?_
  refine hK4 _ _ ?_
  refine Sx.condF F rfl ?_
  refine wp_skip ?_
  refine hK2 _ _ ?_
  refine Sx.seq (fun K5 hK5 => ?_)
  refine Sx.plain ?_
  refine Sx.sv F (Sx.d_move F (Or.inr rfl) rfl) (Sx.wanted_none rfl _) rfl (by decide) (fun A F => ?_)
  refine Sx.nil ?_
  refine hK5 _ _ ?_
  refine Sx.seq (fun K6 hK6 => ?_)
  refine Sx.seq (fun K7 hK7 => ?_)
  refine Sx.plain ?_
  refine Sx.sv F (Sx.d_move F (Or.inl rfl) rfl) (Sx.wanted_none rfl _) rfl (by decide) (fun A F => ?_)
  refine Sx.sv F (Sx.d_move F (Or.inl rfl) rfl) (Sx.wanted_none rfl _) rfl (by decide) (fun A F => ?_)
  refine Sx.nil ?_
  refine hK7 _ _ ?_
  refine wp_block ?_
  have H := Sx.Own.nilR H 22 1
  refine Sx.loop (fun q A w => ∃ (j : Nat) (v : Value), q = n - j ∧ j ≤ n ∧ Sx.Fr 34 A [(2, .pointer (some ⟨g1, 0, none⟩)), (5, .pointer (some ⟨g2, 0, none⟩)), (21, .int .i64 n), (22, .int .i64 j), (7, v)] ∧ Sx.Own w0 w [(true, g2, [.int .u64 ((Wd.hi 0#128).toNat), .int .u64 ((Wd.lo 0#128).toNat), .int .u64 ((Wd.hi 0#128).toNat), .int .u64 ((Wd.lo 0#128).toNat)]), (true, g1, [.int .u64 ((Wd.hi (Pc.its si j ss)).toNat), .int .u64 ((Wd.lo (Pc.its si j ss)).toNat), .int .u64 ((Wd.hi si).toNat), .int .u64 ((Wd.lo si).toNat)])] [⟨true, v, 22, 1, j, (u64s (Pc.words si j ss))⟩]) n ⟨0, .slice none 0 0, rfl, Nat.zero_le _, F.to ⟨rfl, rfl, rfl, rfl, rfl, trivial⟩, H⟩ ?_
  rintro q A w ⟨j, v, rfl, hj, F, H⟩
  by_cases hlt : j < n
  · skip
    refine Sx.seq (fun K8 hK8 => ?_)
    refine Sx.plain ?_
    refine Sx.sv F (Sx.d_bin (v := .bool true) F rfl rfl rfl (Sx.i_lt (decide_eq_true (by omega)))) (Sx.wanted_none rfl _) rfl (by decide) (fun A F => ?_)
    refine Sx.nil ?_
    refine hK8 _ _ ?_
    refine Sx.seq (fun K9 hK9 => ?_)
    refine Sx.condT F rfl ?_
    refine wp_skip ?_
    refine hK9 _ _ ?_
    refine Sx.seq (fun K10 hK10 => ?_)
    refine wp_block ?_
    refine Sx.seq (fun K11 hK11 => ?_)
    refine Sx.plain ?_
    refine Sx.sv F (Sx.d_move F (Or.inl rfl) rfl) (Sx.wanted_none rfl _) rfl (by decide) (fun A F => ?_)
    refine Sx.sv F (Sx.d_load (i := 1) (xs := [.int .u64 ((Wd.hi (Pc.its si j ss)).toNat), .int .u64 ((Wd.lo (Pc.its si j ss)).toNat), .int .u64 ((Wd.hi si).toNat), .int .u64 ((Wd.lo si).toNat)]) rw_57 F H rfl rfl rfl rfl rfl) (Sx.wanted_none rfl _) rfl (by decide) (fun A F => ?_)
    refine Sx.sw F (Sx.d_call (vs := [.agg #[.int .u64 ((Wd.hi (Pc.its si j ss)).toNat), .int .u64 ((Wd.lo (Pc.its si j ss)).toNat), .int .u64 ((Wd.hi si).toNat), .int .u64 ((Wd.lo si).toNat)]]) (v := .int .u64 ((Pc.word (Pc.its si j ss)).toNat)) if_33 F H rfl rfl (pword_c (Pc.its si j ss) si _)) (Sx.wanted_none rfl _) rfl (by decide) (fun A w F H => ?_)
    refine Sx.sg (mk := fun g => .slice (some ⟨g, 0, none⟩) 1 1) F (Sx.d_lit (qs := #[(0, .int .u64 ((Pc.word (Pc.its si j ss)).toNat))]) (cs := #[.int .u64 ((Pc.word (Pc.its si j ss)).toNat)]) (E := 22) F H rfl rfl (fun _ => by kernel_rfl)) (Sx.wanted_none rfl _) rfl (by decide) (fun g3 A w F (H : Sx.Own w0 _ [(true, g3, [.int .u64 ((Pc.word (Pc.its si j ss)).toNat)]), (true, g2, [.int .u64 ((Wd.hi 0#128).toNat), .int .u64 ((Wd.lo 0#128).toNat), .int .u64 ((Wd.hi 0#128).toNat), .int .u64 ((Wd.lo 0#128).toNat)]), (true, g1, [.int .u64 ((Wd.hi (Pc.its si j ss)).toNat), .int .u64 ((Wd.lo (Pc.its si j ss)).toNat), .int .u64 ((Wd.hi si).toNat), .int .u64 ((Wd.lo si).toNat)])] [⟨true, v, 22, 1, j, (u64s (Pc.words si j ss))⟩]) => ?_)
    refine Sx.sr (mk := fun v => v) F (Sx.d_append (i := 0) (j := 0) el_67 F H rfl rfl rfl rfl rfl rfl rfl rfl (by omega) (by decide)) (Sx.wanted_none rfl _) rfl (by decide) (fun v1 A w F (H : Sx.Own w0 _ [(true, g3, [.int .u64 ((Pc.word (Pc.its si j ss)).toNat)]), (true, g2, [.int .u64 ((Wd.hi 0#128).toNat), .int .u64 ((Wd.lo 0#128).toNat), .int .u64 ((Wd.hi 0#128).toNat), .int .u64 ((Wd.lo 0#128).toNat)]), (true, g1, [.int .u64 ((Wd.hi (Pc.its si j ss)).toNat), .int .u64 ((Wd.lo (Pc.its si j ss)).toNat), .int .u64 ((Wd.hi si).toNat), .int .u64 ((Wd.lo si).toNat)])] [⟨true, v1, 22, 1, (j + 1), (u64s (Pc.words si j ss)) ++ [.int .u64 ((Pc.word (Pc.its si j ss)).toNat)]⟩]) => ?_)
    refine Sx.sv F (Sx.d_move F (Or.inr rfl) rfl) (Sx.wanted_none rfl _) rfl (by decide) (fun A F => ?_)
    refine Sx.nil ?_
    refine hK11 _ _ ?_
    refine Sx.plain ?_
    refine Sx.sv F (Sx.d_load (i := 2) (xs := [.int .u64 ((Wd.hi (Pc.its si j ss)).toNat), .int .u64 ((Wd.lo (Pc.its si j ss)).toNat), .int .u64 ((Wd.hi si).toNat), .int .u64 ((Wd.lo si).toNat)]) rw_57 F H rfl rfl rfl rfl rfl) (Sx.wanted_none rfl _) rfl (by decide) (fun A F => ?_)
    refine Sx.sw F (Sx.d_call (vs := [.agg #[.int .u64 ((Wd.hi (Pc.its si j ss)).toNat), .int .u64 ((Wd.lo (Pc.its si j ss)).toNat), .int .u64 ((Wd.hi si).toNat), .int .u64 ((Wd.lo si).toNat)]]) (v := .agg #[.int .u64 ((Wd.hi ((Pc.step ⟨(Pc.its si j ss), si⟩).s)).toNat), .int .u64 ((Wd.lo ((Pc.step ⟨(Pc.its si j ss), si⟩).s)).toNat), .int .u64 ((Wd.hi si).toNat), .int .u64 ((Wd.lo si).toNat)]) if_36 F H rfl rfl (pstep_c (Pc.its si j ss) si _)) (Sx.wanted_none rfl _) rfl (by decide) (fun A w F H => ?_)
    refine Sx.ss F (Sx.d_store (i := 2) (xs := [.int .u64 ((Wd.hi ((Pc.step ⟨(Pc.its si j ss), si⟩).s)).toNat), .int .u64 ((Wd.lo ((Pc.step ⟨(Pc.its si j ss), si⟩).s)).toNat), .int .u64 ((Wd.hi si).toNat), .int .u64 ((Wd.lo si).toNat)]) (us := [.int .u64 ((Wd.hi ((Pc.step ⟨(Pc.its si j ss), si⟩).s)).toNat), .int .u64 ((Wd.lo ((Pc.step ⟨(Pc.its si j ss), si⟩).s)).toNat), .int .u64 ((Wd.hi si).toNat), .int .u64 ((Wd.lo si).toNat)]) sz_57 F H rfl rfl rfl rfl rfl rfl rfl (Nat.le_of_ble_eq_true rfl) rfl) (Sx.wanted_none rfl _) rfl (fun A w F (H : Sx.Own w0 _ [(true, g3, [.int .u64 ((Pc.word (Pc.its si j ss)).toNat)]), (true, g2, [.int .u64 ((Wd.hi 0#128).toNat), .int .u64 ((Wd.lo 0#128).toNat), .int .u64 ((Wd.hi 0#128).toNat), .int .u64 ((Wd.lo 0#128).toNat)]), (true, g1, [.int .u64 ((Wd.hi ((Pc.step ⟨(Pc.its si j ss), si⟩).s)).toNat), .int .u64 ((Wd.lo ((Pc.step ⟨(Pc.its si j ss), si⟩).s)).toNat), .int .u64 ((Wd.hi si).toNat), .int .u64 ((Wd.lo si).toNat)])] [⟨true, v1, 22, 1, (j + 1), (u64s (Pc.words si j ss)) ++ [.int .u64 ((Pc.word (Pc.its si j ss)).toNat)]⟩]) => ?_)
    refine Sx.nil ?_
    refine hK10 _ _ ?_
    refine Sx.plain ?_
    refine Sx.sv F (Sx.d_bin (v := .int .i64 (j + 1 : Nat)) F rfl rfl rfl (Sx.i_addN rfl (Sx.in_i64 _ (by omega)))) (Sx.wanted_none rfl _) rfl (by decide) (fun A F => ?_)
    refine Sx.sv F (Sx.d_move F (Or.inl rfl) rfl) (Sx.wanted_none rfl _) rfl (by decide) (fun A F => ?_)
    refine Sx.nil ?_
    try dsimp only [Exit.then]
    exact ⟨n - (j + 1), by omega, j + 1, v1, rfl, by omega, F.to ⟨rfl, rfl, rfl, rfl, rfl, trivial⟩, by rw [Pc.words_succ, u64s_snoc]; exact H.to' [1, 2] [0] (by decide) (by decide) rfl rfl⟩
  · obtain rfl : j = n := by omega
    refine Sx.seq (fun K12 hK12 => ?_)
    refine Sx.plain ?_
    refine Sx.sv F (Sx.d_bin (v := .bool false) F rfl rfl rfl (Sx.i_lt (by simp))) (Sx.wanted_none rfl _) rfl (by decide) (fun A F => ?_)
    refine Sx.nil ?_
    refine hK12 _ _ ?_
    refine Sx.seq (fun K13 hK13 => ?_)
    refine Sx.condF F rfl ?_
    refine wp_exit ?_
    try dsimp only [Exit.then, Exit.jump]
    refine Sx.exit_here ?_
    refine hK6 _ _ ?_
    refine Sx.seq (fun K14 hK14 => ?_)
    have F := Sx.Fr.to F (kv' := [(2, .pointer (some ⟨g1, 0, none⟩)), (5, .pointer (some ⟨g2, 0, none⟩)), (21, .int .i64 j), (22, .int .i64 j), (7, v), (23, .bool false)]) ⟨rfl, rfl, rfl, rfl, rfl, rfl, trivial⟩
    refine Sx.drawn F (by kernel_rfl) (by kernel_rfl) (by kernel_rfl) [some (v), some (.agg #[.int .u64 ((Wd.hi (Pc.its si j ss)).toNat), .int .u64 ((Wd.lo (Pc.its si j ss)).toNat), .int .u64 ((Wd.hi si).toNat), .int .u64 ((Wd.lo si).toNat)]), some (v), none, some (.int .i64 0)] (fun L A w => Sx.Own w0 w [(true, g2, (cond (L 3) [.int .u64 ((Wd.hi (Pc.its si j ss)).toNat), .int .u64 ((Wd.lo (Pc.its si j ss)).toNat), .int .u64 ((Wd.hi si).toNat), .int .u64 ((Wd.lo si).toNat)] [.int .u64 ((Wd.hi 0#128).toNat), .int .u64 ((Wd.lo 0#128).toNat), .int .u64 ((Wd.hi 0#128).toNat), .int .u64 ((Wd.lo 0#128).toNat)])), (true, g1, [.int .u64 ((Wd.hi (Pc.its si j ss)).toNat), .int .u64 ((Wd.lo (Pc.its si j ss)).toNat), .int .u64 ((Wd.hi si).toNat), .int .u64 ((Wd.lo si).toNat)])] [⟨true, v, 22, 1, j, (u64s (Pc.words si j ss))⟩]) H.drew ?_ ?_
    · refine ⟨?_, ?_, ?_, ?_, ?_, trivial⟩
      · show Sx.StepAt _ _ _ _ _ _ _ 0
        intro L A w up hun hd F H
        have f3 : L 3 = false := up 3 0 rfl hun
        rw [f3] at H
        have F := Sx.Fr.to F (kv' := [(7, v)]) ⟨rfl, trivial⟩
        refine Sx.step_on rfl (Sx.d_move F (Or.inl rfl) rfl) ?_
        rintro xv w' ⟨hx, rfl⟩
        exact ⟨(fun cv hc => hx.trans (Option.some.inj (Option.some.inj hc))), (by show Sx.Own _ _ _ _; rw [show Inv.add L 0 3 = false from f3]; exact H)⟩
      · show Sx.StepAt _ _ _ _ _ _ _ 1
        intro L A w up hun hd F H
        have f3 : L 3 = false := up 3 1 rfl hun
        rw [f3] at H
        have F := Sx.Fr.to F (kv' := [(2, .pointer (some ⟨g1, 0, none⟩))]) ⟨rfl, trivial⟩
        refine Sx.step_on rfl (Sx.d_load (i := 1) (xs := [.int .u64 ((Wd.hi (Pc.its si j ss)).toNat), .int .u64 ((Wd.lo (Pc.its si j ss)).toNat), .int .u64 ((Wd.hi si).toNat), .int .u64 ((Wd.lo si).toNat)]) rw_57 F H rfl rfl rfl rfl rfl) ?_
        rintro xv w' ⟨hx, rfl⟩
        exact ⟨(fun cv hc => hx.trans (Option.some.inj (Option.some.inj hc))), (by show Sx.Own _ _ _ _; rw [show Inv.add L 1 3 = false from f3]; exact H)⟩
      · show Sx.StepAt _ _ _ _ _ _ _ 2
        intro L A w up hun hd F H
        have f3 : L 3 = false := up 3 2 rfl hun
        rw [f3] at H
        have F := Sx.Fr.to F (kv' := [(32, v)]) ⟨rfl, trivial⟩
        refine Sx.step_on rfl (Sx.d_move F (Or.inr rfl) rfl) ?_
        rintro xv w' ⟨hx, rfl⟩
        exact ⟨(fun cv hc => hx.trans (Option.some.inj (Option.some.inj hc))), (by show Sx.Own _ _ _ _; rw [show Inv.add L 2 3 = false from f3]; exact H)⟩
      · show Sx.StepAt _ _ _ _ _ _ _ 3
        intro L A w up hun hd F H
        have f3 : L 3 = false := hun
        rw [f3] at H
        have F := Sx.Fr.to F (kv' := [(5, .pointer (some ⟨g2, 0, none⟩)), (33, .agg #[.int .u64 ((Wd.hi (Pc.its si j ss)).toNat), .int .u64 ((Wd.lo (Pc.its si j ss)).toNat), .int .u64 ((Wd.hi si).toNat), .int .u64 ((Wd.lo si).toNat)])]) ⟨rfl, rfl, trivial⟩
        refine Sx.step_on rfl (Sx.d_store (i := 0) (xs := [.int .u64 ((Wd.hi (Pc.its si j ss)).toNat), .int .u64 ((Wd.lo (Pc.its si j ss)).toNat), .int .u64 ((Wd.hi si).toNat), .int .u64 ((Wd.lo si).toNat)]) (us := [.int .u64 ((Wd.hi (Pc.its si j ss)).toNat), .int .u64 ((Wd.lo (Pc.its si j ss)).toNat), .int .u64 ((Wd.hi si).toNat), .int .u64 ((Wd.lo si).toNat)]) sz_57 F H rfl rfl rfl rfl rfl rfl rfl (Nat.le_of_ble_eq_true rfl) rfl) ?_
        intro xv w' H
        exact ⟨(fun cv hc => by have h := Option.some.inj hc; cases h), H⟩
      · show Sx.StepAt _ _ _ _ _ _ _ 4
        intro L A w up hun hd F H
        have t3 : L 3 = true := hd 3 rfl
        rw [t3] at H
        have F := Sx.Fr.to F (kv' := []) trivial
        refine Sx.step_on rfl (Sx.d_move F (Or.inr rfl) rfl) ?_
        rintro xv w' ⟨hx, rfl⟩
        exact ⟨(fun cv hc => hx.trans (Option.some.inj (Option.some.inj hc))), (by show Sx.Own _ _ _ _; rw [show Inv.add L 4 3 = true from t3]; exact H)⟩
    · intro L A w hL F H
      have t3 : L 3 = true := hL 3 rfl
      rw [t3] at H
      have F := Sx.Fr.to F (kv' := [(2, .pointer (some ⟨g1, 0, none⟩)), (5, .pointer (some ⟨g2, 0, none⟩)), (21, .int .i64 j), (22, .int .i64 j), (7, v), (23, .bool false), (4, v), (6, .int .i64 0)]) ⟨rfl, rfl, rfl, rfl, rfl, rfl, rfl, rfl, trivial⟩
      refine hK14 _ _ ?_
      refine wp_ret ?_
      try dsimp only [Exit.then, Exit.inBlock, Exit.jump]
      refine Sx.ret3 F Try.results39 (Sx.res_tmp (v := v) F rfl) (Sx.res_row (i := 0) (xs := [.int .u64 ((Wd.hi (Pc.its si j ss)).toNat), .int .u64 ((Wd.lo (Pc.its si j ss)).toNat), .int .u64 ((Wd.hi si).toNat), .int .u64 ((Wd.lo si).toNat)]) rw_57 F H rfl rfl rfl rfl) (Sx.res_tmp (v := .int .i64 0) F rfl) ?_
      exact ⟨_, rfl, H.row 0 _ rfl rfl, H.below⟩
end Go.Proofs.Ytpbdffmgendboaa
