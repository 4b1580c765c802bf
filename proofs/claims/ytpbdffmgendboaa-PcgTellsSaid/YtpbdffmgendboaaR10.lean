/- The reference of pcg: Own, Word, Step, Jump walked. -/
import Derived.Test.YtpbdffmgendboaaR1M
import Derived.Test.YtpbdffmgendboaaPcW
namespace Go.Proofs.Ytpbdffmgendboaa
open Go Go.RowKit
theorem Pc.lo_even (x : BitVec 64) (h : ((x % 2#64).toNat : Int) == 0) : x + 1#64 = x ||| 1#64 := by
  apply BitVec.add_eq_or_of_and_eq_zero
  have h0 : x.toNat % 2 = 0 := by
    have h1 : (x % 2#64).toNat = 0 := by have := eq_of_beq h; omega
    rw [BitVec.toNat_umod] at h1; exact h1
  apply BitVec.eq_of_toNat_eq
  rw [BitVec.toNat_and, show (1#64 : BitVec 64).toNat = 1 from rfl, Nat.and_one_is_mod, h0]; rfl
theorem Pc.lo_odd (x : BitVec 64) (h : (((x % 2#64).toNat : Int) == 0) = false) : x = x ||| 1#64 := by
  have h0 : x.toNat % 2 = 1 := by
    have h1 : ¬ (x % 2#64).toNat = 0 := by have := ne_of_beq_false h; omega
    rw [BitVec.toNat_umod, show (2#64 : BitVec 64).toNat = 2 from rfl] at h1
    omega
  apply BitVec.eq_of_getLsbD_eq
  intro i hi
  rw [BitVec.getLsbD_or]
  cases i with
  | zero =>
    have : x.getLsbD 0 = true := by rw [BitVec.getLsbD, Nat.testBit_zero, h0]; rfl
    rw [this]; rfl
  | succ i =>
    have : (1#64 : BitVec 64).getLsbD (i + 1) = false := by
      rw [BitVec.getLsbD_one]; simp
    rw [this, Bool.or_false]
set_option maxRecDepth 100000 in
theorem own10_c (ss si : BitVec 128) (w0 : World) : Calls Try.prog 35 #[.agg #[.int .u64 ((Wd.hi ss).toNat), .int .u64 ((Wd.lo ss).toNat), .int .u64 ((Wd.hi si).toNat), .int .u64 ((Wd.lo si).toNat)]] w0 fun e w' => e = .returned (.agg #[.int .u64 ((Wd.hi ss).toNat), .int .u64 ((Wd.lo ss).toNat), .int .u64 ((Wd.hi si).toNat), .int .u64 ((Wd.lo si).toNat)]) ∧ Below w0.heap.size w0 w' := by
  refine Sx.enter (args := [.agg #[.int .u64 ((Wd.hi ss).toNat), .int .u64 ((Wd.lo ss).toNat), .int .u64 ((Wd.hi si).toNat), .int .u64 ((Wd.lo si).toNat)]]) Try.func35 rfl Try.ntmps35 (Nat.le_of_ble_eq_true rfl) (fun A F => ?_)
  have H := Sx.Own.start w0
  refine Sx.seq (fun K1 hK1 => ?_)
  refine Sx.plain ?_
  refine Sx.sb F (Sx.d_box F H rfl rfl [.int .u64 ((Wd.hi ss).toNat), .int .u64 ((Wd.lo ss).toNat), .int .u64 ((Wd.hi si).toNat), .int .u64 ((Wd.lo si).toNat)] rfl) (Sx.wanted_none rfl _) rfl (by decide) (fun g1 A w F H => ?_)
  refine Sx.sb F (Sx.d_alloc H rfl [.int .u64 ((Wd.hi 0#128).toNat), .int .u64 ((Wd.lo 0#128).toNat), .int .u64 ((Wd.hi 0#128).toNat), .int .u64 ((Wd.lo 0#128).toNat)] zero_62) (Sx.wanted_none rfl _) rfl (by decide) (fun g2 A w F H => ?_)
  refine Sx.nil ?_
  refine hK1 _ _ ?_
  refine Sx.seq (fun K2 hK2 => ?_)
  refine Sx.plain ?_
  refine Sx.sv F (Sx.d_faddr (v := .pointer (some ⟨g1, 0, none⟩)) F rfl rfl (fa_57_0 _ 0 _)) (Sx.wanted_none rfl _) rfl (by decide) (fun A F => ?_)
  refine Sx.sv F (Sx.d_load (i := 1) (xs := [.int .u64 ((Wd.hi ss).toNat), .int .u64 ((Wd.lo ss).toNat)]) rw_24 F H rfl rfl rfl rfl rfl) (Sx.wanted_none rfl _) rfl (by decide) (fun A F => ?_)
  refine Sx.sv F (Sx.d_faddr (v := .pointer (some ⟨g1, 2, none⟩)) F rfl rfl (fa_57_1 _ 0 _)) (Sx.wanted_none rfl _) rfl (by decide) (fun A F => ?_)
  refine Sx.sv F (Sx.d_load (i := 1) (xs := [.int .u64 ((Wd.hi si).toNat), .int .u64 ((Wd.lo si).toNat)]) rw_24 F H rfl rfl rfl rfl rfl) (Sx.wanted_none rfl _) rfl (by decide) (fun A F => ?_)
  refine Sx.sv F (Sx.d_build (qs := #[(0, .agg #[.int .u64 ((Wd.hi ss).toNat), .int .u64 ((Wd.lo ss).toNat)]), (1, .agg #[.int .u64 ((Wd.hi si).toNat), .int .u64 ((Wd.lo si).toNat)])]) (v := .agg #[.int .u64 ((Wd.hi ss).toNat), .int .u64 ((Wd.lo ss).toNat), .int .u64 ((Wd.hi si).toNat), .int .u64 ((Wd.lo si).toNat)]) F rfl rfl (by kernel_rfl)) (Sx.wanted_none rfl _) rfl (by decide) (fun A F => ?_)
  refine Sx.ss F (Sx.d_store (i := 0) (xs := [.int .u64 ((Wd.hi ss).toNat), .int .u64 ((Wd.lo ss).toNat), .int .u64 ((Wd.hi si).toNat), .int .u64 ((Wd.lo si).toNat)]) (us := [.int .u64 ((Wd.hi ss).toNat), .int .u64 ((Wd.lo ss).toNat), .int .u64 ((Wd.hi si).toNat), .int .u64 ((Wd.lo si).toNat)]) sz_62 F H rfl rfl rfl rfl rfl rfl rfl (Nat.le_of_ble_eq_true rfl) rfl) (Sx.wanted_none rfl _) rfl (fun A w F (H : Sx.Own w0 _ [(true, g2, [.int .u64 ((Wd.hi ss).toNat), .int .u64 ((Wd.lo ss).toNat), .int .u64 ((Wd.hi si).toNat), .int .u64 ((Wd.lo si).toNat)]), (true, g1, [.int .u64 ((Wd.hi ss).toNat), .int .u64 ((Wd.lo ss).toNat), .int .u64 ((Wd.hi si).toNat), .int .u64 ((Wd.lo si).toNat)])] []) => ?_)
  refine Sx.nil ?_
  refine hK2 _ _ ?_
  refine wp_ret ?_
  try dsimp only [Exit.then, Exit.inBlock, Exit.jump]
  refine Sx.ret1 F Try.results35 (Sx.res_row (i := 0) (xs := [.int .u64 ((Wd.hi ss).toNat), .int .u64 ((Wd.lo ss).toNat), .int .u64 ((Wd.hi si).toNat), .int .u64 ((Wd.lo si).toNat)]) rw_62 F H rfl rfl rfl rfl) ⟨?_, H.below⟩
  rfl
set_option maxRecDepth 100000 in
theorem rword10_e (ss si : BitVec 128) (he : (((Wd.lo ss % 2#64).toNat : Int) == 0) = true) (w0 : World) : Calls Try.prog 34 #[.agg #[.int .u64 ((Wd.hi ss).toNat), .int .u64 ((Wd.lo ss).toNat), .int .u64 ((Wd.hi si).toNat), .int .u64 ((Wd.lo si).toNat)]] w0 fun e w' => e = .returned (.int .u64 ((Pc.word ss).toNat)) ∧ Below w0.heap.size w0 w' := by
  refine Sx.enter (args := [.agg #[.int .u64 ((Wd.hi ss).toNat), .int .u64 ((Wd.lo ss).toNat), .int .u64 ((Wd.hi si).toNat), .int .u64 ((Wd.lo si).toNat)]]) Try.func34 rfl Try.ntmps34 (Nat.le_of_ble_eq_true rfl) (fun A F => ?_)
  have H := Sx.Own.start w0
  refine Sx.seq (fun K1 hK1 => ?_)
  refine Sx.plain ?_
  refine Sx.sb F (Sx.d_box F H rfl rfl [.int .u64 ((Wd.hi ss).toNat), .int .u64 ((Wd.lo ss).toNat), .int .u64 ((Wd.hi si).toNat), .int .u64 ((Wd.lo si).toNat)] rfl) (Sx.wanted_none rfl _) rfl (by decide) (fun g1 A w F H => ?_)
  refine Sx.sv F (Sx.d_move F (Or.inr rfl) rfl) (Sx.wanted_none rfl _) rfl (by decide) (fun A F => ?_)
  refine Sx.nil ?_
  refine hK1 _ _ ?_
  refine Sx.seq (fun K2 hK2 => ?_)
  refine Sx.plain ?_
  refine Sx.sv F (Sx.d_faddr (v := .pointer (some ⟨g1, 0, none⟩)) F rfl rfl (fa_62_0 _ 0 _)) (Sx.wanted_none rfl _) rfl (by decide) (fun A F => ?_)
  refine Sx.sv F (Sx.d_faddr (v := .pointer (some ⟨g1, 0, none⟩)) F rfl rfl (fa_31_0 _ 0 _)) (Sx.wanted_none rfl _) rfl (by decide) (fun A F => ?_)
  refine Sx.sv F (Sx.d_load1 (i := 0) (v := .int .u64 ((Wd.hi ss).toNat)) one_22 F H rfl rfl rfl rfl) (Sx.wanted_none rfl _) rfl (by decide) (fun A F => ?_)
  refine Sx.sv F (Sx.d_move F (Or.inr rfl) rfl) (Sx.wanted_none rfl _) rfl (by decide) (fun A F => ?_)
  refine Sx.nil ?_
  refine hK2 _ _ ?_
  refine Sx.seq (fun K3 hK3 => ?_)
  refine Sx.plain ?_
  refine Sx.sv F (Sx.d_faddr (v := .pointer (some ⟨g1, 0, none⟩)) F rfl rfl (fa_62_0 _ 0 _)) (Sx.wanted_none rfl _) rfl (by decide) (fun A F => ?_)
  refine Sx.sv F (Sx.d_faddr (v := .pointer (some ⟨g1, 1, none⟩)) F rfl rfl (fa_31_1 _ 0 _)) (Sx.wanted_none rfl _) rfl (by decide) (fun A F => ?_)
  refine Sx.sv F (Sx.d_load1 (i := 0) (v := .int .u64 ((Wd.lo ss).toNat)) one_22 F H rfl rfl rfl rfl) (Sx.wanted_none rfl _) rfl (by decide) (fun A F => ?_)
  refine Sx.sv F (Sx.d_move F (Or.inr rfl) rfl) (Sx.wanted_none rfl _) rfl (by decide) (fun A F => ?_)
  refine Sx.nil ?_
  refine hK3 _ _ ?_
  refine Sx.seq (fun K4 hK4 => ?_)
  refine Sx.seq (fun K5 hK5 => ?_)
  refine Sx.plain ?_
  refine Sx.sv F (Sx.d_move F (Or.inl rfl) rfl) (Sx.wanted_none rfl _) rfl (by decide) (fun A F => ?_)
  refine Sx.sv F (Sx.d_bin (v := .int .u64 (((Wd.lo ss) % 2#64).toNat)) F rfl rfl rfl (Sx.i_rem64 (Wd.lo ss) 2#64 (by decide))) (Sx.wanted_none rfl _) rfl (by decide) (fun A F => ?_)
  refine Sx.sv F (Sx.d_bin (v := .bool true) F rfl rfl rfl (Sx.i_eq he)) (Sx.wanted_none rfl _) rfl (by decide) (fun A F => ?_)
  refine Sx.nil ?_
  refine hK5 _ _ ?_
  refine Sx.condT F rfl ?_
  refine Sx.plain ?_
  refine Sx.sv F (Sx.d_move F (Or.inl rfl) rfl) (Sx.wanted_none rfl _) rfl (by decide) (fun A F => ?_)
  refine Sx.sv F (Sx.d_bin (v := .int .u64 (((Wd.lo ss) + 1#64).toNat)) F rfl rfl rfl (Sx.i_add64 (Wd.lo ss) 1#64)) (Sx.wanted_none rfl _) rfl (by decide) (fun A F => ?_)
  refine Sx.sv F (Sx.d_move F (Or.inr rfl) rfl) (Sx.wanted_none rfl _) rfl (by decide) (fun A F => ?_)
  refine Sx.nil ?_
  refine hK4 _ _ ?_
  refine Sx.seq (fun K6 hK6 => ?_)
  refine Sx.plain ?_
  refine Sx.sv F (Sx.d_move F (Or.inl rfl) rfl) (Sx.wanted_none rfl _) rfl (by decide) (fun A F => ?_)
  refine Sx.sv F (Sx.d_move F (Or.inl rfl) rfl) (Sx.wanted_none rfl _) rfl (by decide) (fun A F => ?_)
  refine Sx.sv F (Sx.d_bin (v := .int .u64 (((Wd.hi ss) >>> 32).toNat)) F rfl rfl rfl (Sx.i_shr64 (Wd.hi ss) 32 (by decide) _)) (Sx.wanted_none rfl _) rfl (by decide) (fun A F => ?_)
  refine Sx.sv F (Sx.d_bin (v := .int .u64 (((Wd.hi ss) ^^^ ((Wd.hi ss) >>> 32)).toNat)) F rfl rfl rfl (Sx.i_xor64 (Wd.hi ss) ((Wd.hi ss) >>> 32))) (Sx.wanted_none rfl _) rfl (by decide) (fun A F => ?_)
  refine Sx.sv F (Sx.d_bin (v := .int .u64 ((((Wd.hi ss) ^^^ ((Wd.hi ss) >>> 32)) * 15750249268501108917#64).toNat)) F rfl rfl rfl (Sx.i_mul64 ((Wd.hi ss) ^^^ ((Wd.hi ss) >>> 32)) 15750249268501108917#64)) (Sx.wanted_none rfl _) rfl (by decide) (fun A F => ?_)
  refine Sx.sv F (Sx.d_move F (Or.inr rfl) rfl) (Sx.wanted_none rfl _) rfl (by decide) (fun A F => ?_)
  refine Sx.nil ?_
  refine hK6 _ _ ?_
  refine Sx.seq (fun K7 hK7 => ?_)
  refine Sx.plain ?_
  refine Sx.sv F (Sx.d_move F (Or.inl rfl) rfl) (Sx.wanted_none rfl _) rfl (by decide) (fun A F => ?_)
  refine Sx.sv F (Sx.d_move F (Or.inl rfl) rfl) (Sx.wanted_none rfl _) rfl (by decide) (fun A F => ?_)
  refine Sx.sv F (Sx.d_bin (v := .int .u64 (((((Wd.hi ss) ^^^ ((Wd.hi ss) >>> 32)) * 15750249268501108917#64) >>> 48).toNat)) F rfl rfl rfl (Sx.i_shr64 (((Wd.hi ss) ^^^ ((Wd.hi ss) >>> 32)) * 15750249268501108917#64) 48 (by decide) _)) (Sx.wanted_none rfl _) rfl (by decide) (fun A F => ?_)
  refine Sx.sv F (Sx.d_bin (v := .int .u64 (((((Wd.hi ss) ^^^ ((Wd.hi ss) >>> 32)) * 15750249268501108917#64) ^^^ ((((Wd.hi ss) ^^^ ((Wd.hi ss) >>> 32)) * 15750249268501108917#64) >>> 48)).toNat)) F rfl rfl rfl (Sx.i_xor64 (((Wd.hi ss) ^^^ ((Wd.hi ss) >>> 32)) * 15750249268501108917#64) ((((Wd.hi ss) ^^^ ((Wd.hi ss) >>> 32)) * 15750249268501108917#64) >>> 48))) (Sx.wanted_none rfl _) rfl (by decide) (fun A F => ?_)
  refine Sx.sv F (Sx.d_move F (Or.inl rfl) rfl) (Sx.wanted_none rfl _) rfl (by decide) (fun A F => ?_)
  refine Sx.sv F (Sx.d_bin (v := .int .u64 ((((((Wd.hi ss) ^^^ ((Wd.hi ss) >>> 32)) * 15750249268501108917#64) ^^^ ((((Wd.hi ss) ^^^ ((Wd.hi ss) >>> 32)) * 15750249268501108917#64) >>> 48)) * ((Wd.lo ss) + 1#64)).toNat)) F rfl rfl rfl (Sx.i_mul64 ((((Wd.hi ss) ^^^ ((Wd.hi ss) >>> 32)) * 15750249268501108917#64) ^^^ ((((Wd.hi ss) ^^^ ((Wd.hi ss) >>> 32)) * 15750249268501108917#64) >>> 48)) ((Wd.lo ss) + 1#64))) (Sx.wanted_none rfl _) rfl (by decide) (fun A F => ?_)
  refine Sx.sv F (Sx.d_move F (Or.inr rfl) rfl) (Sx.wanted_none rfl _) rfl (by decide) (fun A F => ?_)
  refine Sx.nil ?_
  refine hK7 _ _ ?_
  refine wp_ret ?_
  try dsimp only [Exit.then, Exit.inBlock, Exit.jump]
  refine Sx.ret1 F Try.results34 (Sx.res_tmp (v := .int .u64 ((((((Wd.hi ss) ^^^ ((Wd.hi ss) >>> 32)) * 15750249268501108917#64) ^^^ ((((Wd.hi ss) ^^^ ((Wd.hi ss) >>> 32)) * 15750249268501108917#64) >>> 48)) * ((Wd.lo ss) + 1#64)).toNat)) F rfl) ⟨?_, H.below⟩
  unfold Pc.word; rw [← Pc.lo_even _ he]
set_option maxRecDepth 100000 in
theorem rword10_o (ss si : BitVec 128) (he : (((Wd.lo ss % 2#64).toNat : Int) == 0) = false) (w0 : World) : Calls Try.prog 34 #[.agg #[.int .u64 ((Wd.hi ss).toNat), .int .u64 ((Wd.lo ss).toNat), .int .u64 ((Wd.hi si).toNat), .int .u64 ((Wd.lo si).toNat)]] w0 fun e w' => e = .returned (.int .u64 ((Pc.word ss).toNat)) ∧ Below w0.heap.size w0 w' := by
  refine Sx.enter (args := [.agg #[.int .u64 ((Wd.hi ss).toNat), .int .u64 ((Wd.lo ss).toNat), .int .u64 ((Wd.hi si).toNat), .int .u64 ((Wd.lo si).toNat)]]) Try.func34 rfl Try.ntmps34 (Nat.le_of_ble_eq_true rfl) (fun A F => ?_)
  have H := Sx.Own.start w0
  refine Sx.seq (fun K1 hK1 => ?_)
  refine Sx.plain ?_
  refine Sx.sb F (Sx.d_box F H rfl rfl [.int .u64 ((Wd.hi ss).toNat), .int .u64 ((Wd.lo ss).toNat), .int .u64 ((Wd.hi si).toNat), .int .u64 ((Wd.lo si).toNat)] rfl) (Sx.wanted_none rfl _) rfl (by decide) (fun g1 A w F H => ?_)
  refine Sx.sv F (Sx.d_move F (Or.inr rfl) rfl) (Sx.wanted_none rfl _) rfl (by decide) (fun A F => ?_)
  refine Sx.nil ?_
  refine hK1 _ _ ?_
  refine Sx.seq (fun K2 hK2 => ?_)
  refine Sx.plain ?_
  refine Sx.sv F (Sx.d_faddr (v := .pointer (some ⟨g1, 0, none⟩)) F rfl rfl (fa_62_0 _ 0 _)) (Sx.wanted_none rfl _) rfl (by decide) (fun A F => ?_)
  refine Sx.sv F (Sx.d_faddr (v := .pointer (some ⟨g1, 0, none⟩)) F rfl rfl (fa_31_0 _ 0 _)) (Sx.wanted_none rfl _) rfl (by decide) (fun A F => ?_)
  refine Sx.sv F (Sx.d_load1 (i := 0) (v := .int .u64 ((Wd.hi ss).toNat)) one_22 F H rfl rfl rfl rfl) (Sx.wanted_none rfl _) rfl (by decide) (fun A F => ?_)
  refine Sx.sv F (Sx.d_move F (Or.inr rfl) rfl) (Sx.wanted_none rfl _) rfl (by decide) (fun A F => ?_)
  refine Sx.nil ?_
  refine hK2 _ _ ?_
  refine Sx.seq (fun K3 hK3 => ?_)
  refine Sx.plain ?_
  refine Sx.sv F (Sx.d_faddr (v := .pointer (some ⟨g1, 0, none⟩)) F rfl rfl (fa_62_0 _ 0 _)) (Sx.wanted_none rfl _) rfl (by decide) (fun A F => ?_)
  refine Sx.sv F (Sx.d_faddr (v := .pointer (some ⟨g1, 1, none⟩)) F rfl rfl (fa_31_1 _ 0 _)) (Sx.wanted_none rfl _) rfl (by decide) (fun A F => ?_)
  refine Sx.sv F (Sx.d_load1 (i := 0) (v := .int .u64 ((Wd.lo ss).toNat)) one_22 F H rfl rfl rfl rfl) (Sx.wanted_none rfl _) rfl (by decide) (fun A F => ?_)
  refine Sx.sv F (Sx.d_move F (Or.inr rfl) rfl) (Sx.wanted_none rfl _) rfl (by decide) (fun A F => ?_)
  refine Sx.nil ?_
  refine hK3 _ _ ?_
  refine Sx.seq (fun K4 hK4 => ?_)
  refine Sx.seq (fun K5 hK5 => ?_)
  refine Sx.plain ?_
  refine Sx.sv F (Sx.d_move F (Or.inl rfl) rfl) (Sx.wanted_none rfl _) rfl (by decide) (fun A F => ?_)
  refine Sx.sv F (Sx.d_bin (v := .int .u64 (((Wd.lo ss) % 2#64).toNat)) F rfl rfl rfl (Sx.i_rem64 (Wd.lo ss) 2#64 (by decide))) (Sx.wanted_none rfl _) rfl (by decide) (fun A F => ?_)
  refine Sx.sv F (Sx.d_bin (v := .bool false) F rfl rfl rfl (Sx.i_eq he)) (Sx.wanted_none rfl _) rfl (by decide) (fun A F => ?_)
  refine Sx.nil ?_
  refine hK5 _ _ ?_
  refine Sx.condF F rfl ?_
  refine wp_skip ?_
  refine hK4 _ _ ?_
  refine Sx.seq (fun K6 hK6 => ?_)
  refine Sx.plain ?_
  refine Sx.sv F (Sx.d_move F (Or.inl rfl) rfl) (Sx.wanted_none rfl _) rfl (by decide) (fun A F => ?_)
  refine Sx.sv F (Sx.d_move F (Or.inl rfl) rfl) (Sx.wanted_none rfl _) rfl (by decide) (fun A F => ?_)
  refine Sx.sv F (Sx.d_bin (v := .int .u64 (((Wd.hi ss) >>> 32).toNat)) F rfl rfl rfl (Sx.i_shr64 (Wd.hi ss) 32 (by decide) _)) (Sx.wanted_none rfl _) rfl (by decide) (fun A F => ?_)
  refine Sx.sv F (Sx.d_bin (v := .int .u64 (((Wd.hi ss) ^^^ ((Wd.hi ss) >>> 32)).toNat)) F rfl rfl rfl (Sx.i_xor64 (Wd.hi ss) ((Wd.hi ss) >>> 32))) (Sx.wanted_none rfl _) rfl (by decide) (fun A F => ?_)
  refine Sx.sv F (Sx.d_bin (v := .int .u64 ((((Wd.hi ss) ^^^ ((Wd.hi ss) >>> 32)) * 15750249268501108917#64).toNat)) F rfl rfl rfl (Sx.i_mul64 ((Wd.hi ss) ^^^ ((Wd.hi ss) >>> 32)) 15750249268501108917#64)) (Sx.wanted_none rfl _) rfl (by decide) (fun A F => ?_)
  refine Sx.sv F (Sx.d_move F (Or.inr rfl) rfl) (Sx.wanted_none rfl _) rfl (by decide) (fun A F => ?_)
  refine Sx.nil ?_
  refine hK6 _ _ ?_
  refine Sx.seq (fun K7 hK7 => ?_)
  refine Sx.plain ?_
  refine Sx.sv F (Sx.d_move F (Or.inl rfl) rfl) (Sx.wanted_none rfl _) rfl (by decide) (fun A F => ?_)
  refine Sx.sv F (Sx.d_move F (Or.inl rfl) rfl) (Sx.wanted_none rfl _) rfl (by decide) (fun A F => ?_)
  refine Sx.sv F (Sx.d_bin (v := .int .u64 (((((Wd.hi ss) ^^^ ((Wd.hi ss) >>> 32)) * 15750249268501108917#64) >>> 48).toNat)) F rfl rfl rfl (Sx.i_shr64 (((Wd.hi ss) ^^^ ((Wd.hi ss) >>> 32)) * 15750249268501108917#64) 48 (by decide) _)) (Sx.wanted_none rfl _) rfl (by decide) (fun A F => ?_)
  refine Sx.sv F (Sx.d_bin (v := .int .u64 (((((Wd.hi ss) ^^^ ((Wd.hi ss) >>> 32)) * 15750249268501108917#64) ^^^ ((((Wd.hi ss) ^^^ ((Wd.hi ss) >>> 32)) * 15750249268501108917#64) >>> 48)).toNat)) F rfl rfl rfl (Sx.i_xor64 (((Wd.hi ss) ^^^ ((Wd.hi ss) >>> 32)) * 15750249268501108917#64) ((((Wd.hi ss) ^^^ ((Wd.hi ss) >>> 32)) * 15750249268501108917#64) >>> 48))) (Sx.wanted_none rfl _) rfl (by decide) (fun A F => ?_)
  refine Sx.sv F (Sx.d_move F (Or.inl rfl) rfl) (Sx.wanted_none rfl _) rfl (by decide) (fun A F => ?_)
  refine Sx.sv F (Sx.d_bin (v := .int .u64 ((((((Wd.hi ss) ^^^ ((Wd.hi ss) >>> 32)) * 15750249268501108917#64) ^^^ ((((Wd.hi ss) ^^^ ((Wd.hi ss) >>> 32)) * 15750249268501108917#64) >>> 48)) * (Wd.lo ss)).toNat)) F rfl rfl rfl (Sx.i_mul64 ((((Wd.hi ss) ^^^ ((Wd.hi ss) >>> 32)) * 15750249268501108917#64) ^^^ ((((Wd.hi ss) ^^^ ((Wd.hi ss) >>> 32)) * 15750249268501108917#64) >>> 48)) (Wd.lo ss))) (Sx.wanted_none rfl _) rfl (by decide) (fun A F => ?_)
  refine Sx.sv F (Sx.d_move F (Or.inr rfl) rfl) (Sx.wanted_none rfl _) rfl (by decide) (fun A F => ?_)
  refine Sx.nil ?_
  refine hK7 _ _ ?_
  refine wp_ret ?_
  try dsimp only [Exit.then, Exit.inBlock, Exit.jump]
  refine Sx.ret1 F Try.results34 (Sx.res_tmp (v := .int .u64 ((((((Wd.hi ss) ^^^ ((Wd.hi ss) >>> 32)) * 15750249268501108917#64) ^^^ ((((Wd.hi ss) ^^^ ((Wd.hi ss) >>> 32)) * 15750249268501108917#64) >>> 48)) * (Wd.lo ss)).toNat)) F rfl) ⟨?_, H.below⟩
  unfold Pc.word; rw [← Pc.lo_odd _ he]
theorem rword10_c (ss si : BitVec 128) (w : World) : Calls Try.prog 34 #[.agg #[.int .u64 (Wd.hi (ss)).toNat, .int .u64 (Wd.lo (ss)).toNat, .int .u64 (Wd.hi (si)).toNat, .int .u64 (Wd.lo (si)).toNat]] w fun e w' => e = .returned (.int .u64 (Pc.word ss).toNat) ∧ Below w.heap.size w w' := by
  cases he : (((Wd.lo ss % 2#64).toNat : Int) == 0)
  · exact rword10_o ss si he w
  · exact rword10_e ss si he w
set_option maxRecDepth 100000 in
theorem rstep10_c (ss si : BitVec 128) (w0 : World) : Calls Try.prog 37 #[.agg #[.int .u64 ((Wd.hi ss).toNat), .int .u64 ((Wd.lo ss).toNat), .int .u64 ((Wd.hi si).toNat), .int .u64 ((Wd.lo si).toNat)]] w0 fun e w' => e = .returned (.agg #[.int .u64 ((Wd.hi ((Pc.step ⟨ss, si⟩).s)).toNat), .int .u64 ((Wd.lo ((Pc.step ⟨ss, si⟩).s)).toNat), .int .u64 ((Wd.hi si).toNat), .int .u64 ((Wd.lo si).toNat)]) ∧ Below w0.heap.size w0 w' := by
  refine Sx.enter (args := [.agg #[.int .u64 ((Wd.hi ss).toNat), .int .u64 ((Wd.lo ss).toNat), .int .u64 ((Wd.hi si).toNat), .int .u64 ((Wd.lo si).toNat)]]) Try.func37 rfl Try.ntmps37 (Nat.le_of_ble_eq_true rfl) (fun A F => ?_)
  have H := Sx.Own.start w0
  refine Sx.seq (fun K1 hK1 => ?_)
  refine Sx.plain ?_
  refine Sx.sb F (Sx.d_box F H rfl rfl [.int .u64 ((Wd.hi ss).toNat), .int .u64 ((Wd.lo ss).toNat), .int .u64 ((Wd.hi si).toNat), .int .u64 ((Wd.lo si).toNat)] rfl) (Sx.wanted_none rfl _) rfl (by decide) (fun g1 A w F H => ?_)
  refine Sx.sb F (Sx.d_alloc H rfl [.int .u64 ((Wd.hi 0#128).toNat), .int .u64 ((Wd.lo 0#128).toNat), .int .u64 ((Wd.hi 0#128).toNat), .int .u64 ((Wd.lo 0#128).toNat)] zero_62) (Sx.wanted_none rfl _) rfl (by decide) (fun g2 A w F H => ?_)
  refine Sx.nil ?_
  refine hK1 _ _ ?_
  refine Sx.seq (fun K2 hK2 => ?_)
  have F := Sx.Fr.to F (kv' := [(0, .agg #[.int .u64 ((Wd.hi ss).toNat), .int .u64 ((Wd.lo ss).toNat), .int .u64 ((Wd.hi si).toNat), .int .u64 ((Wd.lo si).toNat)]), (1, .pointer (some ⟨g1, 0, none⟩)), (2, .pointer (some ⟨g2, 0, none⟩))]) ⟨rfl, rfl, rfl, trivial⟩
  refine Sx.drawn F (by kernel_rfl) (by kernel_rfl) (by kernel_rfl) [some (.pointer (some ⟨g1, 0, none⟩)), some (.agg #[.int .u64 ((Wd.hi ss).toNat), .int .u64 ((Wd.lo ss).toNat)]), some (.agg #[.int .u64 ((Wd.hi 15750249268501108917#128).toNat), .int .u64 ((Wd.lo 15750249268501108917#128).toNat)]), some (.agg #[.int .u64 ((Wd.hi (ss * 15750249268501108917#128)).toNat), .int .u64 ((Wd.lo (ss * 15750249268501108917#128)).toNat)]), some (.pointer (some ⟨g1, 2, none⟩)), some (.agg #[.int .u64 ((Wd.hi si).toNat), .int .u64 ((Wd.lo si).toNat)]), some (.tuple #[.agg #[.int .u64 ((Wd.hi ((ss * 15750249268501108917#128) + si)).toNat), .int .u64 ((Wd.lo ((ss * 15750249268501108917#128) + si)).toNat)], .bool (Wd.over (ss * 15750249268501108917#128) si)]), some (.tuple #[.agg #[.int .u64 ((Wd.hi ((ss * 15750249268501108917#128) + si)).toNat), .int .u64 ((Wd.lo ((ss * 15750249268501108917#128) + si)).toNat)], .bool (Wd.over (ss * 15750249268501108917#128) si)]), some (.agg #[.int .u64 ((Wd.hi ((ss * 15750249268501108917#128) + si)).toNat), .int .u64 ((Wd.lo ((ss * 15750249268501108917#128) + si)).toNat)]), some (.bool (Wd.over (ss * 15750249268501108917#128) si)), none, none, some (.bool (Wd.over (ss * 15750249268501108917#128) si))] (fun L A w => ∃ g3 : Nat, (L 10 = true → A.eval (.tmp 3) = .pointer (some ⟨g3, 0, none⟩)) ∧ Sx.Own w0 w [(true, g2, [.int .u64 ((Wd.hi 0#128).toNat), .int .u64 ((Wd.lo 0#128).toNat), .int .u64 ((Wd.hi 0#128).toNat), .int .u64 ((Wd.lo 0#128).toNat)]), (true, g1, [.int .u64 ((Wd.hi ss).toNat), .int .u64 ((Wd.lo ss).toNat), .int .u64 ((Wd.hi si).toNat), .int .u64 ((Wd.lo si).toNat)]), (L 10, g3, (cond (L 11) [.int .u64 ((Wd.hi ((ss * 15750249268501108917#128) + si)).toNat), .int .u64 ((Wd.lo ((ss * 15750249268501108917#128) + si)).toNat)] [.int .u64 ((Wd.hi 0#128).toNat), .int .u64 ((Wd.lo 0#128).toNat)]))] []) ⟨0, (fun h => by cases h), H.drew.pad [(false, 0, [.int .u64 ((Wd.hi 0#128).toNat), .int .u64 ((Wd.lo 0#128).toNat)])] rfl [] rfl⟩ ?_ ?_
  · refine ⟨?_, ?_, ?_, ?_, ?_, ?_, ?_, ?_, ?_, ?_, ?_, ?_, ?_, trivial⟩
    · show Sx.StepAt _ _ _ _ _ _ _ 0
      intro L A w up hun hd F ⟨g3, p10, H⟩
      have f11 : L 11 = false := up 11 0 rfl hun
      rw [f11] at H
      have F := Sx.Fr.to F (kv' := [(1, .pointer (some ⟨g1, 0, none⟩))]) ⟨rfl, trivial⟩
      refine Sx.step_on rfl (Sx.d_faddr (v := .pointer (some ⟨g1, 0, none⟩)) F rfl rfl (fa_62_0 _ 0 _)) ?_
      rintro xv w' ⟨hx, rfl⟩
      exact ⟨(fun cv hc => hx.trans (Option.some.inj (Option.some.inj hc))), ⟨g3, (fun h => (Sx.put_ne rfl _).trans (p10 h)), (by show Sx.Own _ _ _ _; rw [show Inv.add L 0 11 = false from f11]; exact H)⟩⟩
    · show Sx.StepAt _ _ _ _ _ _ _ 1
      intro L A w up hun hd F ⟨g3, p10, H⟩
      have f11 : L 11 = false := up 11 1 rfl hun
      rw [f11] at H
      have F := Sx.Fr.to F (kv' := [(6, .pointer (some ⟨g1, 0, none⟩))]) ⟨rfl, trivial⟩
      refine Sx.step_on rfl (Sx.d_load (i := 1) (xs := [.int .u64 ((Wd.hi ss).toNat), .int .u64 ((Wd.lo ss).toNat)]) rw_31 F H rfl rfl rfl rfl rfl) ?_
      rintro xv w' ⟨hx, rfl⟩
      exact ⟨(fun cv hc => hx.trans (Option.some.inj (Option.some.inj hc))), ⟨g3, (fun h => (Sx.put_ne rfl _).trans (p10 h)), (by show Sx.Own _ _ _ _; rw [show Inv.add L 1 11 = false from f11]; exact H)⟩⟩
    · show Sx.StepAt _ _ _ _ _ _ _ 2
      intro L A w up hun hd F ⟨g3, p10, H⟩
      have f11 : L 11 = false := up 11 2 rfl hun
      rw [f11] at H
      have F := Sx.Fr.to F (kv' := []) trivial
      refine Sx.step_on rfl (Sx.d_build (qs := #[(0, .int .u64 0), (1, .int .u64 15750249268501108917)]) (v := .agg #[.int .u64 ((Wd.hi 15750249268501108917#128).toNat), .int .u64 ((Wd.lo 15750249268501108917#128).toNat)]) F rfl rfl (by kernel_rfl)) ?_
      rintro xv w' ⟨hx, rfl⟩
      exact ⟨(fun cv hc => hx.trans (Option.some.inj (Option.some.inj hc))), ⟨g3, (fun h => (Sx.put_ne rfl _).trans (p10 h)), (by show Sx.Own _ _ _ _; rw [show Inv.add L 2 11 = false from f11]; exact H)⟩⟩
    · show Sx.StepAt _ _ _ _ _ _ _ 3
      intro L A w up hun hd F ⟨g3, p10, H⟩
      have f11 : L 11 = false := up 11 3 rfl hun
      rw [f11] at H
      have F := Sx.Fr.to F (kv' := [(7, .agg #[.int .u64 ((Wd.hi ss).toNat), .int .u64 ((Wd.lo ss).toNat)]), (8, .agg #[.int .u64 ((Wd.hi 15750249268501108917#128).toNat), .int .u64 ((Wd.lo 15750249268501108917#128).toNat)])]) ⟨rfl, rfl, trivial⟩
      refine Sx.step_on rfl (Sx.d_call (vs := [.agg #[.int .u64 ((Wd.hi ss).toNat), .int .u64 ((Wd.lo ss).toNat)], .agg #[.int .u64 ((Wd.hi 15750249268501108917#128).toNat), .int .u64 ((Wd.lo 15750249268501108917#128).toNat)]]) (v := .agg #[.int .u64 ((Wd.hi (ss * 15750249268501108917#128)).toNat), .int .u64 ((Wd.lo (ss * 15750249268501108917#128)).toNat)]) if_59 F H rfl rfl (rmul_c ss 15750249268501108917#128 _)) ?_
      rintro xv w' ⟨hx, H⟩
      exact ⟨(fun cv hc => hx.trans (Option.some.inj (Option.some.inj hc))), ⟨g3, (fun h => (Sx.put_ne rfl _).trans (p10 h)), (by show Sx.Own _ _ _ _; rw [show Inv.add L 3 11 = false from f11]; exact H)⟩⟩
    · show Sx.StepAt _ _ _ _ _ _ _ 4
      intro L A w up hun hd F ⟨g3, p10, H⟩
      have f11 : L 11 = false := up 11 4 rfl hun
      rw [f11] at H
      have F := Sx.Fr.to F (kv' := [(1, .pointer (some ⟨g1, 0, none⟩))]) ⟨rfl, trivial⟩
      refine Sx.step_on rfl (Sx.d_faddr (v := .pointer (some ⟨g1, 2, none⟩)) F rfl rfl (fa_62_1 _ 0 _)) ?_
      rintro xv w' ⟨hx, rfl⟩
      exact ⟨(fun cv hc => hx.trans (Option.some.inj (Option.some.inj hc))), ⟨g3, (fun h => (Sx.put_ne rfl _).trans (p10 h)), (by show Sx.Own _ _ _ _; rw [show Inv.add L 4 11 = false from f11]; exact H)⟩⟩
    · show Sx.StepAt _ _ _ _ _ _ _ 5
      intro L A w up hun hd F ⟨g3, p10, H⟩
      have f11 : L 11 = false := up 11 5 rfl hun
      rw [f11] at H
      have F := Sx.Fr.to F (kv' := [(10, .pointer (some ⟨g1, 2, none⟩))]) ⟨rfl, trivial⟩
      refine Sx.step_on rfl (Sx.d_load (i := 1) (xs := [.int .u64 ((Wd.hi si).toNat), .int .u64 ((Wd.lo si).toNat)]) rw_31 F H rfl rfl rfl rfl rfl) ?_
      rintro xv w' ⟨hx, rfl⟩
      exact ⟨(fun cv hc => hx.trans (Option.some.inj (Option.some.inj hc))), ⟨g3, (fun h => (Sx.put_ne rfl _).trans (p10 h)), (by show Sx.Own _ _ _ _; rw [show Inv.add L 5 11 = false from f11]; exact H)⟩⟩
    · show Sx.StepAt _ _ _ _ _ _ _ 6
      intro L A w up hun hd F ⟨g3, p10, H⟩
      have f11 : L 11 = false := up 11 6 rfl hun
      rw [f11] at H
      have F := Sx.Fr.to F (kv' := [(9, .agg #[.int .u64 ((Wd.hi (ss * 15750249268501108917#128)).toNat), .int .u64 ((Wd.lo (ss * 15750249268501108917#128)).toNat)]), (11, .agg #[.int .u64 ((Wd.hi si).toNat), .int .u64 ((Wd.lo si).toNat)])]) ⟨rfl, rfl, trivial⟩
      refine Sx.step_on rfl (Sx.d_call (vs := [.agg #[.int .u64 ((Wd.hi (ss * 15750249268501108917#128)).toNat), .int .u64 ((Wd.lo (ss * 15750249268501108917#128)).toNat)], .agg #[.int .u64 ((Wd.hi si).toNat), .int .u64 ((Wd.lo si).toNat)]]) (v := .tuple #[.agg #[.int .u64 ((Wd.hi ((ss * 15750249268501108917#128) + si)).toNat), .int .u64 ((Wd.lo ((ss * 15750249268501108917#128) + si)).toNat)], .bool (Wd.over (ss * 15750249268501108917#128) si)]) if_60 F H rfl rfl (radd_c (ss * 15750249268501108917#128) si _)) ?_
      rintro xv w' ⟨hx, H⟩
      exact ⟨(fun cv hc => hx.trans (Option.some.inj (Option.some.inj hc))), ⟨g3, (fun h => (Sx.put_ne rfl _).trans (p10 h)), (by show Sx.Own _ _ _ _; rw [show Inv.add L 6 11 = false from f11]; exact H)⟩⟩
    · show Sx.StepAt _ _ _ _ _ _ _ 7
      intro L A w up hun hd F ⟨g3, p10, H⟩
      have f11 : L 11 = false := up 11 7 rfl hun
      rw [f11] at H
      have F := Sx.Fr.to F (kv' := [(12, .tuple #[.agg #[.int .u64 ((Wd.hi ((ss * 15750249268501108917#128) + si)).toNat), .int .u64 ((Wd.lo ((ss * 15750249268501108917#128) + si)).toNat)], .bool (Wd.over (ss * 15750249268501108917#128) si)])]) ⟨rfl, trivial⟩
      refine Sx.step_on rfl (Sx.d_move F (Or.inl rfl) rfl) ?_
      rintro xv w' ⟨hx, rfl⟩
      exact ⟨(fun cv hc => hx.trans (Option.some.inj (Option.some.inj hc))), ⟨g3, (fun h => (Sx.put_ne rfl _).trans (p10 h)), (by show Sx.Own _ _ _ _; rw [show Inv.add L 7 11 = false from f11]; exact H)⟩⟩
    · show Sx.StepAt _ _ _ _ _ _ _ 8
      intro L A w up hun hd F ⟨g3, p10, H⟩
      have f11 : L 11 = false := up 11 8 rfl hun
      rw [f11] at H
      have F := Sx.Fr.to F (kv' := [(5, .tuple #[.agg #[.int .u64 ((Wd.hi ((ss * 15750249268501108917#128) + si)).toNat), .int .u64 ((Wd.lo ((ss * 15750249268501108917#128) + si)).toNat)], .bool (Wd.over (ss * 15750249268501108917#128) si)])]) ⟨rfl, trivial⟩
      refine Sx.step_on rfl (Sx.d_extract (v := .agg #[.int .u64 ((Wd.hi ((ss * 15750249268501108917#128) + si)).toNat), .int .u64 ((Wd.lo ((ss * 15750249268501108917#128) + si)).toNat)]) F rfl rfl rfl) ?_
      rintro xv w' ⟨hx, rfl⟩
      exact ⟨(fun cv hc => hx.trans (Option.some.inj (Option.some.inj hc))), ⟨g3, (fun h => (Sx.put_ne rfl _).trans (p10 h)), (by show Sx.Own _ _ _ _; rw [show Inv.add L 8 11 = false from f11]; exact H)⟩⟩
    · show Sx.StepAt _ _ _ _ _ _ _ 9
      intro L A w up hun hd F ⟨g3, p10, H⟩
      have F := Sx.Fr.to F (kv' := [(5, .tuple #[.agg #[.int .u64 ((Wd.hi ((ss * 15750249268501108917#128) + si)).toNat), .int .u64 ((Wd.lo ((ss * 15750249268501108917#128) + si)).toNat)], .bool (Wd.over (ss * 15750249268501108917#128) si)])]) ⟨rfl, trivial⟩
      refine Sx.step_on rfl (Sx.d_extract (v := .bool (Wd.over (ss * 15750249268501108917#128) si)) F rfl rfl rfl) ?_
      rintro xv w' ⟨hx, rfl⟩
      exact ⟨(fun cv hc => hx.trans (Option.some.inj (Option.some.inj hc))), ⟨g3, (fun h => (Sx.put_ne rfl _).trans (p10 h)), H⟩⟩
    · show Sx.StepAt _ _ _ _ _ _ _ 10
      intro L A w up hun hd F ⟨g3, p10, H⟩
      have f10 : L 10 = false := hun
      have f11 : L 11 = false := up 11 10 rfl hun
      rw [f10, f11] at H
      have F := Sx.Fr.to F (kv' := []) trivial
      refine Sx.step_on rfl (Sx.d_alloc_at H rfl 2 [.int .u64 ((Wd.hi 0#128).toNat), .int .u64 ((Wd.lo 0#128).toNat)] zero_31) ?_
      rintro xv w' ⟨g', hx, H⟩
      exact ⟨(fun cv hc => by have h := Option.some.inj hc; cases h), ⟨g', (fun _ => (Sx.put_same F (by decide) _).trans hx), (by show Sx.Own _ _ _ _; rw [show Inv.add L 10 11 = false from f11]; exact H)⟩⟩
    · show Sx.StepAt _ _ _ _ _ _ _ 11
      intro L A w up hun hd F ⟨g3, p10, H⟩
      have t10 : L 10 = true := hd 10 rfl
      have f11 : L 11 = false := hun
      rw [t10, f11] at H
      have F := Sx.Fr.to F (kv' := [(13, .agg #[.int .u64 ((Wd.hi ((ss * 15750249268501108917#128) + si)).toNat), .int .u64 ((Wd.lo ((ss * 15750249268501108917#128) + si)).toNat)])]) ⟨rfl, trivial⟩
      have F := Sx.Fr.add F (p10 t10)
      refine Sx.step_on rfl (Sx.d_store (i := 2) (xs := [.int .u64 ((Wd.hi ((ss * 15750249268501108917#128) + si)).toNat), .int .u64 ((Wd.lo ((ss * 15750249268501108917#128) + si)).toNat)]) (us := [.int .u64 ((Wd.hi ((ss * 15750249268501108917#128) + si)).toNat), .int .u64 ((Wd.lo ((ss * 15750249268501108917#128) + si)).toNat)]) sz_31 F H rfl rfl rfl rfl rfl rfl rfl (Nat.le_of_ble_eq_true rfl) rfl) ?_
      intro xv w' H
      exact ⟨(fun cv hc => by have h := Option.some.inj hc; cases h), ⟨g3, p10, (by show Sx.Own _ _ _ _; rw [show Inv.add L 11 10 = true from t10]; exact H)⟩⟩
    · show Sx.StepAt _ _ _ _ _ _ _ 12
      intro L A w up hun hd F ⟨g3, p10, H⟩
      have t10 : L 10 = true := hd 10 rfl
      have t11 : L 11 = true := hd 11 rfl
      rw [t10, t11] at H
      have F := Sx.Fr.to F (kv' := [(14, .bool (Wd.over (ss * 15750249268501108917#128) si))]) ⟨rfl, trivial⟩
      have F := Sx.Fr.add F (p10 t10)
      refine Sx.step_on rfl (Sx.d_move F (Or.inr rfl) rfl) ?_
      rintro xv w' ⟨hx, rfl⟩
      exact ⟨(fun cv hc => hx.trans (Option.some.inj (Option.some.inj hc))), ⟨g3, (fun h => (Sx.put_ne rfl _).trans (p10 h)), (by show Sx.Own _ _ _ _; rw [show Inv.add L 12 10 = true from t10, show Inv.add L 12 11 = true from t11]; exact H)⟩⟩
  · intro L A w hL F ⟨g3, p10, H⟩
    have t10 : L 10 = true := hL 10 rfl
    have t11 : L 11 = true := hL 11 rfl
    rw [t10, t11] at H
    have F := Sx.Fr.add F (p10 t10)
    have F := Sx.Fr.to F (kv' := [(0, .agg #[.int .u64 ((Wd.hi ss).toNat), .int .u64 ((Wd.lo ss).toNat), .int .u64 ((Wd.hi si).toNat), .int .u64 ((Wd.lo si).toNat)]), (1, .pointer (some ⟨g1, 0, none⟩)), (2, .pointer (some ⟨g2, 0, none⟩)), (3, .pointer (some ⟨g3, 0, none⟩))]) ⟨rfl, rfl, rfl, rfl, trivial⟩
    refine hK2 _ _ ?_
    refine Sx.seq (fun K3 hK3 => ?_)
    refine Sx.plain ?_
    refine Sx.sv F (Sx.d_load (i := 2) (xs := [.int .u64 ((Wd.hi ((ss * 15750249268501108917#128) + si)).toNat), .int .u64 ((Wd.lo ((ss * 15750249268501108917#128) + si)).toNat)]) rw_31 F H rfl rfl rfl rfl rfl) (Sx.wanted_none rfl _) rfl (by decide) (fun A F => ?_)
    refine Sx.sv F (Sx.d_faddr (v := .pointer (some ⟨g1, 2, none⟩)) F rfl rfl (fa_62_1 _ 0 _)) (Sx.wanted_none rfl _) rfl (by decide) (fun A F => ?_)
    refine Sx.sv F (Sx.d_load (i := 1) (xs := [.int .u64 ((Wd.hi si).toNat), .int .u64 ((Wd.lo si).toNat)]) rw_31 F H rfl rfl rfl rfl rfl) (Sx.wanted_none rfl _) rfl (by decide) (fun A F => ?_)
    refine Sx.sv F (Sx.d_build (qs := #[(0, .agg #[.int .u64 ((Wd.hi ((ss * 15750249268501108917#128) + si)).toNat), .int .u64 ((Wd.lo ((ss * 15750249268501108917#128) + si)).toNat)]), (1, .agg #[.int .u64 ((Wd.hi si).toNat), .int .u64 ((Wd.lo si).toNat)])]) (v := .agg #[.int .u64 ((Wd.hi ((ss * 15750249268501108917#128) + si)).toNat), .int .u64 ((Wd.lo ((ss * 15750249268501108917#128) + si)).toNat), .int .u64 ((Wd.hi si).toNat), .int .u64 ((Wd.lo si).toNat)]) F rfl rfl (by kernel_rfl)) (Sx.wanted_none rfl _) rfl (by decide) (fun A F => ?_)
    refine Sx.ss F (Sx.d_store (i := 0) (xs := [.int .u64 ((Wd.hi ((ss * 15750249268501108917#128) + si)).toNat), .int .u64 ((Wd.lo ((ss * 15750249268501108917#128) + si)).toNat), .int .u64 ((Wd.hi si).toNat), .int .u64 ((Wd.lo si).toNat)]) (us := [.int .u64 ((Wd.hi ((ss * 15750249268501108917#128) + si)).toNat), .int .u64 ((Wd.lo ((ss * 15750249268501108917#128) + si)).toNat), .int .u64 ((Wd.hi si).toNat), .int .u64 ((Wd.lo si).toNat)]) sz_62 F H rfl rfl rfl rfl rfl rfl rfl (Nat.le_of_ble_eq_true rfl) rfl) (Sx.wanted_none rfl _) rfl (fun A w F (H : Sx.Own w0 _ [(true, g2, [.int .u64 ((Wd.hi ((ss * 15750249268501108917#128) + si)).toNat), .int .u64 ((Wd.lo ((ss * 15750249268501108917#128) + si)).toNat), .int .u64 ((Wd.hi si).toNat), .int .u64 ((Wd.lo si).toNat)]), (true, g1, [.int .u64 ((Wd.hi ss).toNat), .int .u64 ((Wd.lo ss).toNat), .int .u64 ((Wd.hi si).toNat), .int .u64 ((Wd.lo si).toNat)]), (true, g3, [.int .u64 ((Wd.hi ((ss * 15750249268501108917#128) + si)).toNat), .int .u64 ((Wd.lo ((ss * 15750249268501108917#128) + si)).toNat)])] []) => ?_)
    refine Sx.nil ?_
    refine hK3 _ _ ?_
    refine wp_ret ?_
    try dsimp only [Exit.then, Exit.inBlock, Exit.jump]
    refine Sx.ret1 F Try.results37 (Sx.res_row (i := 0) (xs := [.int .u64 ((Wd.hi ((ss * 15750249268501108917#128) + si)).toNat), .int .u64 ((Wd.lo ((ss * 15750249268501108917#128) + si)).toNat), .int .u64 ((Wd.hi si).toNat), .int .u64 ((Wd.lo si).toNat)]) rw_62 F H rfl rfl rfl rfl) ⟨?_, H.below⟩
    rw [show (Pc.step ⟨ss, si⟩).s = ss * 15750249268501108917#128 + si from by show Pc.factor * ss + si = _; rw [BitVec.mul_comm]; rfl]
set_option maxRecDepth 100000 in
theorem rjump10_c (ss si : BitVec 128) (n : Nat) (hn : n ≤ 1000000) (w0 : World) : Calls Try.prog 41 #[.agg #[.int .u64 ((Wd.hi ss).toNat), .int .u64 ((Wd.lo ss).toNat), .int .u64 ((Wd.hi si).toNat), .int .u64 ((Wd.lo si).toNat)], .int .i64 n] w0 fun e w' => e = .returned (.agg #[.int .u64 ((Wd.hi (Pc.its si n ss)).toNat), .int .u64 ((Wd.lo (Pc.its si n ss)).toNat), .int .u64 ((Wd.hi si).toNat), .int .u64 ((Wd.lo si).toNat)]) ∧ Below w0.heap.size w0 w' := by
  refine Sx.enter (args := [.agg #[.int .u64 ((Wd.hi ss).toNat), .int .u64 ((Wd.lo ss).toNat), .int .u64 ((Wd.hi si).toNat), .int .u64 ((Wd.lo si).toNat)], .int .i64 n]) Try.func41 rfl Try.ntmps41 (Nat.le_of_ble_eq_true rfl) (fun A F => ?_)
  have H := Sx.Own.start w0
  refine Sx.seq (fun K1 hK1 => ?_)
  refine Sx.plain ?_
  refine Sx.sb F (Sx.d_box F H rfl rfl [.int .u64 ((Wd.hi ss).toNat), .int .u64 ((Wd.lo ss).toNat), .int .u64 ((Wd.hi si).toNat), .int .u64 ((Wd.lo si).toNat)] rfl) (Sx.wanted_none rfl _) rfl (by decide) (fun g1 A w F H => ?_)
  refine Sx.sb F (Sx.d_alloc H rfl [.int .u64 ((Wd.hi 0#128).toNat), .int .u64 ((Wd.lo 0#128).toNat), .int .u64 ((Wd.hi 0#128).toNat), .int .u64 ((Wd.lo 0#128).toNat)] zero_62) (Sx.wanted_none rfl _) rfl (by decide) (fun g2 A w F H => ?_)
  refine Sx.nil ?_
  refine hK1 _ _ ?_
  refine Sx.seq (fun K2 hK2 => ?_)
  refine Sx.seq (fun K3 hK3 => ?_)
  refine Sx.plain ?_
  refine Sx.sv F (Sx.d_move F (Or.inr rfl) rfl) (Sx.wanted_none rfl _) rfl (by decide) (fun A F => ?_)
  refine Sx.nil ?_
  refine hK3 _ _ ?_
  refine wp_block ?_
  refine Sx.loop (fun q A w => ∃ j : Nat, q = n - j ∧ j ≤ n ∧ Sx.Fr 14 A [(1, .int .i64 n), (2, .pointer (some ⟨g1, 0, none⟩)), (4, .pointer (some ⟨g2, 0, none⟩)), (5, .int .i64 j)] ∧ Sx.Own w0 w [(true, g2, [.int .u64 ((Wd.hi 0#128).toNat), .int .u64 ((Wd.lo 0#128).toNat), .int .u64 ((Wd.hi 0#128).toNat), .int .u64 ((Wd.lo 0#128).toNat)]), (true, g1, [.int .u64 ((Wd.hi (Pc.its si j ss)).toNat), .int .u64 ((Wd.lo (Pc.its si j ss)).toNat), .int .u64 ((Wd.hi si).toNat), .int .u64 ((Wd.lo si).toNat)])] []) n ⟨0, rfl, Nat.zero_le _, F.to ⟨rfl, rfl, rfl, rfl, trivial⟩, H⟩ ?_
  rintro q A w ⟨j, rfl, hj, F, H⟩
  by_cases hlt : j < n
  · skip
    refine Sx.seq (fun K4 hK4 => ?_)
    refine Sx.seq (fun K5 hK5 => ?_)
    refine Sx.plain ?_
    refine Sx.sv F (Sx.d_move F (Or.inl rfl) rfl) (Sx.wanted_none rfl _) rfl (by decide) (fun A F => ?_)
    refine Sx.sv F (Sx.d_move F (Or.inl rfl) rfl) (Sx.wanted_none rfl _) rfl (by decide) (fun A F => ?_)
    refine Sx.sv F (Sx.d_bin (v := .bool true) F rfl rfl rfl (Sx.i_lt (decide_eq_true (by omega)))) (Sx.wanted_none rfl _) rfl (by decide) (fun A F => ?_)
    refine Sx.nil ?_
    refine hK5 _ _ ?_
    refine Sx.condT F rfl ?_
    refine wp_skip ?_
    refine hK4 _ _ ?_
    refine Sx.seq (fun K6 hK6 => ?_)
    refine wp_block ?_
    refine Sx.plain ?_
    refine Sx.sv F (Sx.d_load (i := 1) (xs := [.int .u64 ((Wd.hi (Pc.its si j ss)).toNat), .int .u64 ((Wd.lo (Pc.its si j ss)).toNat), .int .u64 ((Wd.hi si).toNat), .int .u64 ((Wd.lo si).toNat)]) rw_62 F H rfl rfl rfl rfl rfl) (Sx.wanted_none rfl _) rfl (by decide) (fun A F => ?_)
    refine Sx.sw F (Sx.d_call (vs := [.agg #[.int .u64 ((Wd.hi (Pc.its si j ss)).toNat), .int .u64 ((Wd.lo (Pc.its si j ss)).toNat), .int .u64 ((Wd.hi si).toNat), .int .u64 ((Wd.lo si).toNat)]]) (v := .agg #[.int .u64 ((Wd.hi ((Pc.step ⟨(Pc.its si j ss), si⟩).s)).toNat), .int .u64 ((Wd.lo ((Pc.step ⟨(Pc.its si j ss), si⟩).s)).toNat), .int .u64 ((Wd.hi si).toNat), .int .u64 ((Wd.lo si).toNat)]) if_37 F H rfl rfl (rstep10_c (Pc.its si j ss) si _)) (Sx.wanted_none rfl _) rfl (by decide) (fun A w F H => ?_)
    refine Sx.ss F (Sx.d_store (i := 1) (xs := [.int .u64 ((Wd.hi ((Pc.step ⟨(Pc.its si j ss), si⟩).s)).toNat), .int .u64 ((Wd.lo ((Pc.step ⟨(Pc.its si j ss), si⟩).s)).toNat), .int .u64 ((Wd.hi si).toNat), .int .u64 ((Wd.lo si).toNat)]) (us := [.int .u64 ((Wd.hi ((Pc.step ⟨(Pc.its si j ss), si⟩).s)).toNat), .int .u64 ((Wd.lo ((Pc.step ⟨(Pc.its si j ss), si⟩).s)).toNat), .int .u64 ((Wd.hi si).toNat), .int .u64 ((Wd.lo si).toNat)]) sz_62 F H rfl rfl rfl rfl rfl rfl rfl (Nat.le_of_ble_eq_true rfl) rfl) (Sx.wanted_none rfl _) rfl (fun A w F (H : Sx.Own w0 _ [(true, g2, [.int .u64 ((Wd.hi 0#128).toNat), .int .u64 ((Wd.lo 0#128).toNat), .int .u64 ((Wd.hi 0#128).toNat), .int .u64 ((Wd.lo 0#128).toNat)]), (true, g1, [.int .u64 ((Wd.hi ((Pc.step ⟨(Pc.its si j ss), si⟩).s)).toNat), .int .u64 ((Wd.lo ((Pc.step ⟨(Pc.its si j ss), si⟩).s)).toNat), .int .u64 ((Wd.hi si).toNat), .int .u64 ((Wd.lo si).toNat)])] []) => ?_)
    refine Sx.nil ?_
    refine hK6 _ _ ?_
    refine Sx.plain ?_
    refine Sx.sv F (Sx.d_move F (Or.inl rfl) rfl) (Sx.wanted_none rfl _) rfl (by decide) (fun A F => ?_)
    refine Sx.sv F (Sx.d_bin (v := .int .i64 (j + 1 : Nat)) F rfl rfl rfl (Sx.i_addN rfl (Sx.in_i64 _ (by omega)))) (Sx.wanted_none rfl _) rfl (by decide) (fun A F => ?_)
    refine Sx.sv F (Sx.d_move F (Or.inr rfl) rfl) (Sx.wanted_none rfl _) rfl (by decide) (fun A F => ?_)
    refine Sx.nil ?_
    try dsimp only [Exit.then]
    exact ⟨n - (j + 1), by omega, j + 1, rfl, by omega, F.to ⟨rfl, rfl, rfl, rfl, trivial⟩, H⟩
  · obtain rfl : j = n := by omega
    refine Sx.seq (fun K7 hK7 => ?_)
    refine Sx.seq (fun K8 hK8 => ?_)
    refine Sx.plain ?_
    refine Sx.sv F (Sx.d_move F (Or.inl rfl) rfl) (Sx.wanted_none rfl _) rfl (by decide) (fun A F => ?_)
    refine Sx.sv F (Sx.d_move F (Or.inl rfl) rfl) (Sx.wanted_none rfl _) rfl (by decide) (fun A F => ?_)
    refine Sx.sv F (Sx.d_bin (v := .bool false) F rfl rfl rfl (Sx.i_lt (by simp))) (Sx.wanted_none rfl _) rfl (by decide) (fun A F => ?_)
    refine Sx.nil ?_
    refine hK8 _ _ ?_
    refine Sx.condF F rfl ?_
    refine wp_exit ?_
    try dsimp only [Exit.then, Exit.jump]
    refine Sx.exit_here ?_
    refine hK2 _ _ ?_
    refine Sx.seq (fun K9 hK9 => ?_)
    refine Sx.plain ?_
    refine Sx.sv F (Sx.d_load (i := 1) (xs := [.int .u64 ((Wd.hi (Pc.its si j ss)).toNat), .int .u64 ((Wd.lo (Pc.its si j ss)).toNat), .int .u64 ((Wd.hi si).toNat), .int .u64 ((Wd.lo si).toNat)]) rw_62 F H rfl rfl rfl rfl rfl) (Sx.wanted_none rfl _) rfl (by decide) (fun A F => ?_)
    refine Sx.ss F (Sx.d_store (i := 0) (xs := [.int .u64 ((Wd.hi (Pc.its si j ss)).toNat), .int .u64 ((Wd.lo (Pc.its si j ss)).toNat), .int .u64 ((Wd.hi si).toNat), .int .u64 ((Wd.lo si).toNat)]) (us := [.int .u64 ((Wd.hi (Pc.its si j ss)).toNat), .int .u64 ((Wd.lo (Pc.its si j ss)).toNat), .int .u64 ((Wd.hi si).toNat), .int .u64 ((Wd.lo si).toNat)]) sz_62 F H rfl rfl rfl rfl rfl rfl rfl (Nat.le_of_ble_eq_true rfl) rfl) (Sx.wanted_none rfl _) rfl (fun A w F (H : Sx.Own w0 _ [(true, g2, [.int .u64 ((Wd.hi (Pc.its si j ss)).toNat), .int .u64 ((Wd.lo (Pc.its si j ss)).toNat), .int .u64 ((Wd.hi si).toNat), .int .u64 ((Wd.lo si).toNat)]), (true, g1, [.int .u64 ((Wd.hi (Pc.its si j ss)).toNat), .int .u64 ((Wd.lo (Pc.its si j ss)).toNat), .int .u64 ((Wd.hi si).toNat), .int .u64 ((Wd.lo si).toNat)])] []) => ?_)
    refine Sx.nil ?_
    refine hK9 _ _ ?_
    refine wp_ret ?_
    try dsimp only [Exit.then, Exit.inBlock, Exit.jump]
    refine Sx.ret1 F Try.results41 (Sx.res_row (i := 0) (xs := [.int .u64 ((Wd.hi (Pc.its si j ss)).toNat), .int .u64 ((Wd.lo (Pc.its si j ss)).toNat), .int .u64 ((Wd.hi si).toNat), .int .u64 ((Wd.lo si).toNat)]) rw_62 F H rfl rfl rfl rfl) ⟨?_, H.below⟩
    rfl
end Go.Proofs.Ytpbdffmgendboaa
