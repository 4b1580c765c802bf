/- The reference of half: Own, Step, Jump; HalfSteps walked. -/
import Derived.Test.YtpbdffmgendboaaSxG
import Derived.Test.YtpbdffmgendboaaR1
import Derived.Test.YtpbdffmgendboaaHfF
namespace Go.Proofs.Ytpbdffmgendboaa
open Go Go.RowKit
set_option maxRecDepth 100000 in
theorem own12_c (hc : BitVec 128) (k0 k1 : BitVec 32) (hb : Bool) (w0 : World) : Calls Try.prog 47 #[.agg #[.int .u64 ((Wd.hi hc).toNat), .int .u64 ((Wd.lo hc).toNat), .int .u32 k0.toNat, .int .u32 k1.toNat, .bool hb]] w0 fun e w' => e = .returned (.agg #[.int .u64 ((Wd.hi hc).toNat), .int .u64 ((Wd.lo hc).toNat), .int .u32 k0.toNat, .int .u32 k1.toNat, .bool hb]) ∧ Below w0.heap.size w0 w' := by
  refine Sx.enter (args := [.agg #[.int .u64 ((Wd.hi hc).toNat), .int .u64 ((Wd.lo hc).toNat), .int .u32 k0.toNat, .int .u32 k1.toNat, .bool hb]]) Try.func47 rfl Try.ntmps47 (Nat.le_of_ble_eq_true rfl) (fun A F => ?_)
  have H := Sx.Own.start w0
  refine Sx.seq (fun K1 hK1 => ?_)
  refine Sx.plain ?_
  refine Sx.sb F (Sx.d_box F H rfl rfl [.int .u64 ((Wd.hi hc).toNat), .int .u64 ((Wd.lo hc).toNat), .int .u32 k0.toNat, .int .u32 k1.toNat, .bool hb] rfl) (Sx.wanted_none rfl _) rfl (by decide) (fun g1 A w F H => ?_)
  refine Sx.sb F (Sx.d_alloc H rfl [.int .u64 ((Wd.hi 0#128).toNat), .int .u64 ((Wd.lo 0#128).toNat), .int .u32 0, .int .u32 0, .bool false] zero_86) (Sx.wanted_none rfl _) rfl (by decide) (fun g2 A w F H => ?_)
  refine Sx.nil ?_
  refine hK1 _ _ ?_
  refine Sx.seq (fun K2 hK2 => ?_)
  refine Sx.plain ?_
  refine Sx.sv F (Sx.d_faddr (v := .pointer (some ⟨g1, 0, none⟩)) F rfl rfl (fa_82_0 _ 0 _)) (Sx.wanted_none rfl _) rfl (by decide) (fun A F => ?_)
  refine Sx.sv F (Sx.d_load (i := 1) (xs := [.int .u64 ((Wd.hi hc).toNat), .int .u64 ((Wd.lo hc).toNat)]) rw_24 F H rfl rfl rfl rfl rfl) (Sx.wanted_none rfl _) rfl (by decide) (fun A F => ?_)
  refine Sx.sv F (Sx.d_faddr (v := .pointer (some ⟨g1, 2, none⟩)) F rfl rfl (fa_82_1 _ 0 _)) (Sx.wanted_none rfl _) rfl (by decide) (fun A F => ?_)
  refine Sx.sv F (Sx.d_load (i := 1) (xs := [.int .u32 k0.toNat, .int .u32 k1.toNat]) rw_80 F H rfl rfl rfl rfl rfl) (Sx.wanted_none rfl _) rfl (by decide) (fun A F => ?_)
  refine Sx.sv F (Sx.d_faddr (v := .pointer (some ⟨g1, 4, none⟩)) F rfl rfl (fa_82_2 _ 0 _)) (Sx.wanted_none rfl _) rfl (by decide) (fun A F => ?_)
  refine Sx.sv F (Sx.d_load1 (i := 1) (v := .bool hb) one_4 F H rfl rfl rfl rfl) (Sx.wanted_none rfl _) rfl (by decide) (fun A F => ?_)
  refine Sx.sv F (Sx.d_build (qs := #[(0, .agg #[.int .u64 ((Wd.hi hc).toNat), .int .u64 ((Wd.lo hc).toNat)]), (1, .agg #[.int .u32 k0.toNat, .int .u32 k1.toNat]), (2, .bool hb)]) (v := .agg #[.int .u64 ((Wd.hi hc).toNat), .int .u64 ((Wd.lo hc).toNat), .int .u32 k0.toNat, .int .u32 k1.toNat, .bool hb]) F rfl rfl (by kernel_rfl)) (Sx.wanted_none rfl _) rfl (by decide) (fun A F => ?_)
  refine Sx.ss F (Sx.d_store (i := 0) (xs := [.int .u64 ((Wd.hi hc).toNat), .int .u64 ((Wd.lo hc).toNat), .int .u32 k0.toNat, .int .u32 k1.toNat, .bool hb]) (us := [.int .u64 ((Wd.hi hc).toNat), .int .u64 ((Wd.lo hc).toNat), .int .u32 k0.toNat, .int .u32 k1.toNat, .bool hb]) sz_86 F H rfl rfl rfl rfl rfl rfl rfl (Nat.le_of_ble_eq_true rfl) rfl) (Sx.wanted_none rfl _) rfl (fun A w F (H : Sx.Own w0 _ [(true, g2, [.int .u64 ((Wd.hi hc).toNat), .int .u64 ((Wd.lo hc).toNat), .int .u32 k0.toNat, .int .u32 k1.toNat, .bool hb]), (true, g1, [.int .u64 ((Wd.hi hc).toNat), .int .u64 ((Wd.lo hc).toNat), .int .u32 k0.toNat, .int .u32 k1.toNat, .bool hb])] []) => ?_)
  refine Sx.nil ?_
  refine hK2 _ _ ?_
  refine wp_ret ?_
  try dsimp only [Exit.then, Exit.inBlock, Exit.jump]
  refine Sx.ret1 F Try.results47 (Sx.res_row (i := 0) (xs := [.int .u64 ((Wd.hi hc).toNat), .int .u64 ((Wd.lo hc).toNat), .int .u32 k0.toNat, .int .u32 k1.toNat, .bool hb]) rw_86 F H rfl rfl rfl rfl) ⟨?_, H.below⟩
  rfl
set_option maxRecDepth 100000 in
theorem rstep12_t (hc : BitVec 128) (k0 k1 : BitVec 32) (w0 : World) : Calls Try.prog 49 #[.agg #[.int .u64 ((Wd.hi hc).toNat), .int .u64 ((Wd.lo hc).toNat), .int .u32 k0.toNat, .int .u32 k1.toNat, .bool true]] w0 fun e w' => e = .returned (.agg #[.int .u64 ((Wd.hi (hc + 1#128)).toNat), .int .u64 ((Wd.lo (hc + 1#128)).toNat), .int .u32 k0.toNat, .int .u32 k1.toNat, .bool false]) ∧ Below w0.heap.size w0 w' := by
  refine Sx.enter (args := [.agg #[.int .u64 ((Wd.hi hc).toNat), .int .u64 ((Wd.lo hc).toNat), .int .u32 k0.toNat, .int .u32 k1.toNat, .bool true]]) Try.func49 rfl Try.ntmps49 (Nat.le_of_ble_eq_true rfl) (fun A F => ?_)
  have H := Sx.Own.start w0
  refine Sx.seq (fun K1 hK1 => ?_)
  refine Sx.plain ?_
  refine Sx.sb F (Sx.d_box F H rfl rfl [.int .u64 ((Wd.hi hc).toNat), .int .u64 ((Wd.lo hc).toNat), .int .u32 k0.toNat, .int .u32 k1.toNat, .bool true] rfl) (Sx.wanted_none rfl _) rfl (by decide) (fun g1 A w F H => ?_)
  refine Sx.sb F (Sx.d_alloc H rfl [.int .u64 ((Wd.hi 0#128).toNat), .int .u64 ((Wd.lo 0#128).toNat), .int .u32 0, .int .u32 0, .bool false] zero_86) (Sx.wanted_none rfl _) rfl (by decide) (fun g2 A w F H => ?_)
  refine Sx.nil ?_
  refine hK1 _ _ ?_
  refine Sx.seq (fun K2 hK2 => ?_)
  refine Sx.seq (fun K3 hK3 => ?_)
  refine Sx.plain ?_
  refine Sx.sv F (Sx.d_faddr (v := .pointer (some ⟨g1, 4, none⟩)) F rfl rfl (fa_86_2 _ 0 _)) (Sx.wanted_none rfl _) rfl (by decide) (fun A F => ?_)
  refine Sx.sv F (Sx.d_load1 (i := 1) (v := .bool true) one_4 F H rfl rfl rfl rfl) (Sx.wanted_none rfl _) rfl (by decide) (fun A F => ?_)
  refine Sx.nil ?_
  refine hK3 _ _ ?_
  refine Sx.condT F rfl ?_
  refine Sx.seq (fun K4 hK4 => ?_)
  refine Sx.plain ?_
  refine Sx.sv F (Sx.d_faddr (v := .pointer (some ⟨g1, 0, none⟩)) F rfl rfl (fa_86_0 _ 0 _)) (Sx.wanted_none rfl _) rfl (by decide) (fun A F => ?_)
  refine Sx.sv F (Sx.d_load (i := 1) (xs := [.int .u64 ((Wd.hi hc).toNat), .int .u64 ((Wd.lo hc).toNat)]) rw_31 F H rfl rfl rfl rfl rfl) (Sx.wanted_none rfl _) rfl (by decide) (fun A F => ?_)
  refine Sx.sv F (Sx.d_build (qs := #[(0, .int .u64 0), (1, .int .u64 1)]) (v := .agg #[.int .u64 ((Wd.hi 1#128).toNat), .int .u64 ((Wd.lo 1#128).toNat)]) F rfl rfl (by kernel_rfl)) (Sx.wanted_none rfl _) rfl (by decide) (fun A F => ?_)
  refine Sx.sw F (Sx.d_call (vs := [.agg #[.int .u64 ((Wd.hi hc).toNat), .int .u64 ((Wd.lo hc).toNat)], .agg #[.int .u64 ((Wd.hi 1#128).toNat), .int .u64 ((Wd.lo 1#128).toNat)]]) (v := .tuple #[.agg #[.int .u64 ((Wd.hi (hc + 1#128)).toNat), .int .u64 ((Wd.lo (hc + 1#128)).toNat)], .bool (Wd.over hc 1#128)]) if_60 F H rfl rfl (radd_c hc 1#128 _)) (Sx.wanted_none rfl _) rfl (by decide) (fun A w F H => ?_)
  refine Sx.sv F (Sx.d_move F (Or.inl rfl) rfl) (Sx.wanted_none rfl _) rfl (by decide) (fun A F => ?_)
  refine Sx.sv F (Sx.d_extract (v := .agg #[.int .u64 ((Wd.hi (hc + 1#128)).toNat), .int .u64 ((Wd.lo (hc + 1#128)).toNat)]) F rfl rfl rfl) (Sx.wanted_none rfl _) rfl (by decide) (fun A F => ?_)
  refine Sx.sv F (Sx.d_extract (v := .bool (Wd.over hc 1#128)) F rfl rfl rfl) (Sx.wanted_none rfl _) rfl (by decide) (fun A F => ?_)
  refine Sx.sb F (Sx.d_alloc H rfl [.int .u64 ((Wd.hi 0#128).toNat), .int .u64 ((Wd.lo 0#128).toNat)] zero_31) (Sx.wanted_none rfl _) rfl (by decide) (fun g3 A w F H => ?_)
  refine Sx.ss F (Sx.d_store (i := 0) (xs := [.int .u64 ((Wd.hi (hc + 1#128)).toNat), .int .u64 ((Wd.lo (hc + 1#128)).toNat)]) (us := [.int .u64 ((Wd.hi (hc + 1#128)).toNat), .int .u64 ((Wd.lo (hc + 1#128)).toNat)]) sz_31 F H rfl rfl rfl rfl rfl rfl rfl (Nat.le_of_ble_eq_true rfl) rfl) (Sx.wanted_none rfl _) rfl (fun A w F (H : Sx.Own w0 _ [(true, g3, [.int .u64 ((Wd.hi (hc + 1#128)).toNat), .int .u64 ((Wd.lo (hc + 1#128)).toNat)]), (true, g2, [.int .u64 ((Wd.hi 0#128).toNat), .int .u64 ((Wd.lo 0#128).toNat), .int .u32 0, .int .u32 0, .bool false]), (true, g1, [.int .u64 ((Wd.hi hc).toNat), .int .u64 ((Wd.lo hc).toNat), .int .u32 k0.toNat, .int .u32 k1.toNat, .bool true])] []) => ?_)
  refine Sx.sv F (Sx.d_move F (Or.inr rfl) rfl) (Sx.wanted_none rfl _) rfl (by decide) (fun A F => ?_)
  refine Sx.nil ?_
  refine hK4 _ _ ?_
  refine Sx.seq (fun K5 hK5 => ?_)
  refine Sx.plain ?_
  refine Sx.sv F (Sx.d_load (i := 0) (xs := [.int .u64 ((Wd.hi (hc + 1#128)).toNat), .int .u64 ((Wd.lo (hc + 1#128)).toNat)]) rw_31 F H rfl rfl rfl rfl rfl) (Sx.wanted_none rfl _) rfl (by decide) (fun A F => ?_)
  refine Sx.sv F (Sx.d_faddr (v := .pointer (some ⟨g1, 2, none⟩)) F rfl rfl (fa_86_1 _ 0 _)) (Sx.wanted_none rfl _) rfl (by decide) (fun A F => ?_)
  refine Sx.sv F (Sx.d_load (i := 2) (xs := [.int .u32 k0.toNat, .int .u32 k1.toNat]) rw_79 F H rfl rfl rfl rfl rfl) (Sx.wanted_none rfl _) rfl (by decide) (fun A F => ?_)
  refine Sx.sv F (Sx.d_build (qs := #[(0, .agg #[.int .u64 ((Wd.hi (hc + 1#128)).toNat), .int .u64 ((Wd.lo (hc + 1#128)).toNat)]), (1, .agg #[.int .u32 k0.toNat, .int .u32 k1.toNat]), (2, .bool false)]) (v := .agg #[.int .u64 ((Wd.hi (hc + 1#128)).toNat), .int .u64 ((Wd.lo (hc + 1#128)).toNat), .int .u32 k0.toNat, .int .u32 k1.toNat, .bool false]) F rfl rfl (by kernel_rfl)) (Sx.wanted_none rfl _) rfl (by decide) (fun A F => ?_)
  refine Sx.ss F (Sx.d_store (i := 1) (xs := [.int .u64 ((Wd.hi (hc + 1#128)).toNat), .int .u64 ((Wd.lo (hc + 1#128)).toNat), .int .u32 k0.toNat, .int .u32 k1.toNat, .bool false]) (us := [.int .u64 ((Wd.hi (hc + 1#128)).toNat), .int .u64 ((Wd.lo (hc + 1#128)).toNat), .int .u32 k0.toNat, .int .u32 k1.toNat, .bool false]) sz_86 F H rfl rfl rfl rfl rfl rfl rfl (Nat.le_of_ble_eq_true rfl) rfl) (Sx.wanted_none rfl _) rfl (fun A w F (H : Sx.Own w0 _ [(true, g3, [.int .u64 ((Wd.hi (hc + 1#128)).toNat), .int .u64 ((Wd.lo (hc + 1#128)).toNat)]), (true, g2, [.int .u64 ((Wd.hi (hc + 1#128)).toNat), .int .u64 ((Wd.lo (hc + 1#128)).toNat), .int .u32 k0.toNat, .int .u32 k1.toNat, .bool false]), (true, g1, [.int .u64 ((Wd.hi hc).toNat), .int .u64 ((Wd.lo hc).toNat), .int .u32 k0.toNat, .int .u32 k1.toNat, .bool true])] []) => ?_)
  refine Sx.nil ?_
  refine hK5 _ _ ?_
  refine wp_ret ?_
  try dsimp only [Exit.then, Exit.inBlock, Exit.jump]
  refine Sx.ret1 F Try.results49 (Sx.res_row (i := 1) (xs := [.int .u64 ((Wd.hi (hc + 1#128)).toNat), .int .u64 ((Wd.lo (hc + 1#128)).toNat), .int .u32 k0.toNat, .int .u32 k1.toNat, .bool false]) rw_86 F H rfl rfl rfl rfl) ⟨?_, H.below⟩
  rfl
set_option maxRecDepth 100000 in
theorem rstep12_f (hc : BitVec 128) (k0 k1 : BitVec 32) (w0 : World) : Calls Try.prog 49 #[.agg #[.int .u64 ((Wd.hi hc).toNat), .int .u64 ((Wd.lo hc).toNat), .int .u32 k0.toNat, .int .u32 k1.toNat, .bool false]] w0 fun e w' => e = .returned (.agg #[.int .u64 ((Wd.hi hc).toNat), .int .u64 ((Wd.lo hc).toNat), .int .u32 k0.toNat, .int .u32 k1.toNat, .bool true]) ∧ Below w0.heap.size w0 w' := by
  refine Sx.enter (args := [.agg #[.int .u64 ((Wd.hi hc).toNat), .int .u64 ((Wd.lo hc).toNat), .int .u32 k0.toNat, .int .u32 k1.toNat, .bool false]]) Try.func49 rfl Try.ntmps49 (Nat.le_of_ble_eq_true rfl) (fun A F => ?_)
  have H := Sx.Own.start w0
  refine Sx.seq (fun K1 hK1 => ?_)
  refine Sx.plain ?_
  refine Sx.sb F (Sx.d_box F H rfl rfl [.int .u64 ((Wd.hi hc).toNat), .int .u64 ((Wd.lo hc).toNat), .int .u32 k0.toNat, .int .u32 k1.toNat, .bool false] rfl) (Sx.wanted_none rfl _) rfl (by decide) (fun g1 A w F H => ?_)
  refine Sx.sb F (Sx.d_alloc H rfl [.int .u64 ((Wd.hi 0#128).toNat), .int .u64 ((Wd.lo 0#128).toNat), .int .u32 0, .int .u32 0, .bool false] zero_86) (Sx.wanted_none rfl _) rfl (by decide) (fun g2 A w F H => ?_)
  refine Sx.nil ?_
  refine hK1 _ _ ?_
  refine Sx.seq (fun K2 hK2 => ?_)
  refine Sx.seq (fun K3 hK3 => ?_)
  refine Sx.plain ?_
  refine Sx.sv F (Sx.d_faddr (v := .pointer (some ⟨g1, 4, none⟩)) F rfl rfl (fa_86_2 _ 0 _)) (Sx.wanted_none rfl _) rfl (by decide) (fun A F => ?_)
  refine Sx.sv F (Sx.d_load1 (i := 1) (v := .bool false) one_4 F H rfl rfl rfl rfl) (Sx.wanted_none rfl _) rfl (by decide) (fun A F => ?_)
  refine Sx.nil ?_
  refine hK3 _ _ ?_
  refine Sx.condF F rfl ?_
  refine wp_skip ?_
  refine hK2 _ _ ?_
  refine Sx.seq (fun K4 hK4 => ?_)
  refine Sx.plain ?_
  refine Sx.sv F (Sx.d_faddr (v := .pointer (some ⟨g1, 0, none⟩)) F rfl rfl (fa_86_0 _ 0 _)) (Sx.wanted_none rfl _) rfl (by decide) (fun A F => ?_)
  refine Sx.sv F (Sx.d_load (i := 1) (xs := [.int .u64 ((Wd.hi hc).toNat), .int .u64 ((Wd.lo hc).toNat)]) rw_31 F H rfl rfl rfl rfl rfl) (Sx.wanted_none rfl _) rfl (by decide) (fun A F => ?_)
  refine Sx.sv F (Sx.d_faddr (v := .pointer (some ⟨g1, 2, none⟩)) F rfl rfl (fa_86_1 _ 0 _)) (Sx.wanted_none rfl _) rfl (by decide) (fun A F => ?_)
  refine Sx.sv F (Sx.d_load (i := 1) (xs := [.int .u32 k0.toNat, .int .u32 k1.toNat]) rw_79 F H rfl rfl rfl rfl rfl) (Sx.wanted_none rfl _) rfl (by decide) (fun A F => ?_)
  refine Sx.sv F (Sx.d_build (qs := #[(0, .agg #[.int .u64 ((Wd.hi hc).toNat), .int .u64 ((Wd.lo hc).toNat)]), (1, .agg #[.int .u32 k0.toNat, .int .u32 k1.toNat]), (2, .bool true)]) (v := .agg #[.int .u64 ((Wd.hi hc).toNat), .int .u64 ((Wd.lo hc).toNat), .int .u32 k0.toNat, .int .u32 k1.toNat, .bool true]) F rfl rfl (by kernel_rfl)) (Sx.wanted_none rfl _) rfl (by decide) (fun A F => ?_)
  refine Sx.ss F (Sx.d_store (i := 0) (xs := [.int .u64 ((Wd.hi hc).toNat), .int .u64 ((Wd.lo hc).toNat), .int .u32 k0.toNat, .int .u32 k1.toNat, .bool true]) (us := [.int .u64 ((Wd.hi hc).toNat), .int .u64 ((Wd.lo hc).toNat), .int .u32 k0.toNat, .int .u32 k1.toNat, .bool true]) sz_86 F H rfl rfl rfl rfl rfl rfl rfl (Nat.le_of_ble_eq_true rfl) rfl) (Sx.wanted_none rfl _) rfl (fun A w F (H : Sx.Own w0 _ [(true, g2, [.int .u64 ((Wd.hi hc).toNat), .int .u64 ((Wd.lo hc).toNat), .int .u32 k0.toNat, .int .u32 k1.toNat, .bool true]), (true, g1, [.int .u64 ((Wd.hi hc).toNat), .int .u64 ((Wd.lo hc).toNat), .int .u32 k0.toNat, .int .u32 k1.toNat, .bool false])] []) => ?_)
  refine Sx.nil ?_
  refine hK4 _ _ ?_
  refine wp_ret ?_
  try dsimp only [Exit.then, Exit.inBlock, Exit.jump]
  refine Sx.ret1 F Try.results49 (Sx.res_row (i := 0) (xs := [.int .u64 ((Wd.hi hc).toNat), .int .u64 ((Wd.lo hc).toNat), .int .u32 k0.toNat, .int .u32 k1.toNat, .bool true]) rw_86 F H rfl rfl rfl rfl) ⟨?_, H.below⟩
  rfl
theorem rstep12_c (c : BitVec 128) (k0 k1 : BitVec 32) (b : Bool) (w : World) : Calls Try.prog 49 #[.agg #[.int .u64 (Wd.hi c).toNat, .int .u64 (Wd.lo c).toNat, .int .u32 k0.toNat, .int .u32 k1.toNat, .bool b]] w fun e w' => e = .returned (.agg #[.int .u64 (Wd.hi (Hf.step ⟨c, k0, k1, b⟩).c).toNat, .int .u64 (Wd.lo (Hf.step ⟨c, k0, k1, b⟩).c).toNat, .int .u32 (Hf.step ⟨c, k0, k1, b⟩).k0.toNat, .int .u32 (Hf.step ⟨c, k0, k1, b⟩).k1.toNat, .bool (Hf.step ⟨c, k0, k1, b⟩).b]) ∧ Below w.heap.size w w' := by
  cases b
  · exact rstep12_f c k0 k1 w
  · exact rstep12_t c k0 k1 w
set_option maxRecDepth 100000 in
theorem rjump12_c (hc : BitVec 128) (k0 k1 : BitVec 32) (hb : Bool) (n : Nat) (hn : n ≤ 1000000) (w0 : World) : Calls Try.prog 56 #[.agg #[.int .u64 ((Wd.hi hc).toNat), .int .u64 ((Wd.lo hc).toNat), .int .u32 k0.toNat, .int .u32 k1.toNat, .bool hb], .int .i64 n] w0 fun e w' => e = .returned (.agg #[.int .u64 ((Wd.hi ((Hf.it n ⟨hc, k0, k1, hb⟩).c)).toNat), .int .u64 ((Wd.lo ((Hf.it n ⟨hc, k0, k1, hb⟩).c)).toNat), .int .u32 (((Hf.it n ⟨hc, k0, k1, hb⟩).k0).toNat), .int .u32 (((Hf.it n ⟨hc, k0, k1, hb⟩).k1).toNat), .bool ((Hf.it n ⟨hc, k0, k1, hb⟩).b)]) ∧ Below w0.heap.size w0 w' := by
  refine Sx.enter (args := [.agg #[.int .u64 ((Wd.hi hc).toNat), .int .u64 ((Wd.lo hc).toNat), .int .u32 k0.toNat, .int .u32 k1.toNat, .bool hb], .int .i64 n]) Try.func56 rfl Try.ntmps56 (Nat.le_of_ble_eq_true rfl) (fun A F => ?_)
  have H := Sx.Own.start w0
  refine Sx.seq (fun K1 hK1 => ?_)
  refine Sx.plain ?_
  refine Sx.sb F (Sx.d_box F H rfl rfl [.int .u64 ((Wd.hi hc).toNat), .int .u64 ((Wd.lo hc).toNat), .int .u32 k0.toNat, .int .u32 k1.toNat, .bool hb] rfl) (Sx.wanted_none rfl _) rfl (by decide) (fun g1 A w F H => ?_)
  refine Sx.sb F (Sx.d_alloc H rfl [.int .u64 ((Wd.hi 0#128).toNat), .int .u64 ((Wd.lo 0#128).toNat), .int .u32 0, .int .u32 0, .bool false] zero_86) (Sx.wanted_none rfl _) rfl (by decide) (fun g2 A w F H => ?_)
  refine Sx.nil ?_
  refine hK1 _ _ ?_
  refine Sx.seq (fun K2 hK2 => ?_)
  refine Sx.seq (fun K3 hK3 => ?_)
  refine Sx.plain ?_
  refine Sx.sv F (Sx.d_move F (Or.inr rfl) rfl) (Sx.wanted_none rfl _) rfl (by decide) (fun A F => ?_)
  refine Sx.nil ?_
  refine hK3 _ _ ?_
  refine wp_block ?_
  refine Sx.loop (fun q A w => ∃ j : Nat, q = n - j ∧ j ≤ n ∧ Sx.Fr 14 A [(1, .int .i64 n), (2, .pointer (some ⟨g1, 0, none⟩)), (4, .pointer (some ⟨g2, 0, none⟩)), (5, .int .i64 j)] ∧ Sx.Own w0 w [(true, g2, [.int .u64 ((Wd.hi 0#128).toNat), .int .u64 ((Wd.lo 0#128).toNat), .int .u32 0, .int .u32 0, .bool false]), (true, g1, [.int .u64 ((Wd.hi ((Hf.it j ⟨hc, k0, k1, hb⟩).c)).toNat), .int .u64 ((Wd.lo ((Hf.it j ⟨hc, k0, k1, hb⟩).c)).toNat), .int .u32 (((Hf.it j ⟨hc, k0, k1, hb⟩).k0).toNat), .int .u32 (((Hf.it j ⟨hc, k0, k1, hb⟩).k1).toNat), .bool ((Hf.it j ⟨hc, k0, k1, hb⟩).b)])] []) n ⟨0, rfl, Nat.zero_le _, F.to ⟨rfl, rfl, rfl, rfl, trivial⟩, H⟩ ?_
  rintro q A w ⟨j, rfl, hj, F, H⟩
  by_cases hlt : j < n
  · skip
    refine Sx.seq (fun K4 hK4 => ?_)
    refine Sx.seq (fun K5 hK5 => ?_)
    refine Sx.plain ?_
    refine Sx.sv F (Sx.d_move F (Or.inl rfl) rfl) (Sx.wanted_none rfl _) rfl (by decide) (fun A F => ?_)
    refine Sx.sv F (Sx.d_move F (Or.inl rfl) rfl) (Sx.wanted_none rfl _) rfl (by decide) (fun A F => ?_)
    refine Sx.sv F (Sx.d_bin (v := .bool true) F rfl rfl rfl (Sx.i_lt (decide_eq_true (by omega)))) (Sx.wanted_none rfl _) rfl (by decide) (fun A F => ?_)
    refine Sx.nil ?_
    refine hK5 _ _ ?_
    refine Sx.condT F rfl ?_
    refine wp_skip ?_
    refine hK4 _ _ ?_
    refine Sx.seq (fun K6 hK6 => ?_)
    refine wp_block ?_
    refine Sx.plain ?_
    refine Sx.sv F (Sx.d_load (i := 1) (xs := [.int .u64 ((Wd.hi ((Hf.it j ⟨hc, k0, k1, hb⟩).c)).toNat), .int .u64 ((Wd.lo ((Hf.it j ⟨hc, k0, k1, hb⟩).c)).toNat), .int .u32 (((Hf.it j ⟨hc, k0, k1, hb⟩).k0).toNat), .int .u32 (((Hf.it j ⟨hc, k0, k1, hb⟩).k1).toNat), .bool ((Hf.it j ⟨hc, k0, k1, hb⟩).b)]) rw_86 F H rfl rfl rfl rfl rfl) (Sx.wanted_none rfl _) rfl (by decide) (fun A F => ?_)
    refine Sx.sw F (Sx.d_call (vs := [.agg #[.int .u64 ((Wd.hi ((Hf.it j ⟨hc, k0, k1, hb⟩).c)).toNat), .int .u64 ((Wd.lo ((Hf.it j ⟨hc, k0, k1, hb⟩).c)).toNat), .int .u32 (((Hf.it j ⟨hc, k0, k1, hb⟩).k0).toNat), .int .u32 (((Hf.it j ⟨hc, k0, k1, hb⟩).k1).toNat), .bool ((Hf.it j ⟨hc, k0, k1, hb⟩).b)]]) (v := .agg #[.int .u64 ((Wd.hi ((Hf.step ⟨((Hf.it j ⟨hc, k0, k1, hb⟩).c), ((Hf.it j ⟨hc, k0, k1, hb⟩).k0), ((Hf.it j ⟨hc, k0, k1, hb⟩).k1), (Hf.it j ⟨hc, k0, k1, hb⟩).b⟩).c)).toNat), .int .u64 ((Wd.lo ((Hf.step ⟨((Hf.it j ⟨hc, k0, k1, hb⟩).c), ((Hf.it j ⟨hc, k0, k1, hb⟩).k0), ((Hf.it j ⟨hc, k0, k1, hb⟩).k1), (Hf.it j ⟨hc, k0, k1, hb⟩).b⟩).c)).toNat), .int .u32 (((Hf.step ⟨((Hf.it j ⟨hc, k0, k1, hb⟩).c), ((Hf.it j ⟨hc, k0, k1, hb⟩).k0), ((Hf.it j ⟨hc, k0, k1, hb⟩).k1), (Hf.it j ⟨hc, k0, k1, hb⟩).b⟩).k0).toNat), .int .u32 (((Hf.step ⟨((Hf.it j ⟨hc, k0, k1, hb⟩).c), ((Hf.it j ⟨hc, k0, k1, hb⟩).k0), ((Hf.it j ⟨hc, k0, k1, hb⟩).k1), (Hf.it j ⟨hc, k0, k1, hb⟩).b⟩).k1).toNat), .bool ((Hf.step ⟨((Hf.it j ⟨hc, k0, k1, hb⟩).c), ((Hf.it j ⟨hc, k0, k1, hb⟩).k0), ((Hf.it j ⟨hc, k0, k1, hb⟩).k1), (Hf.it j ⟨hc, k0, k1, hb⟩).b⟩).b)]) if_49 F H rfl rfl (rstep12_c ((Hf.it j ⟨hc, k0, k1, hb⟩).c) ((Hf.it j ⟨hc, k0, k1, hb⟩).k0) ((Hf.it j ⟨hc, k0, k1, hb⟩).k1) ((Hf.it j ⟨hc, k0, k1, hb⟩).b) _)) (Sx.wanted_none rfl _) rfl (by decide) (fun A w F H => ?_)
    refine Sx.ss F (Sx.d_store (i := 1) (xs := [.int .u64 ((Wd.hi ((Hf.step ⟨((Hf.it j ⟨hc, k0, k1, hb⟩).c), ((Hf.it j ⟨hc, k0, k1, hb⟩).k0), ((Hf.it j ⟨hc, k0, k1, hb⟩).k1), (Hf.it j ⟨hc, k0, k1, hb⟩).b⟩).c)).toNat), .int .u64 ((Wd.lo ((Hf.step ⟨((Hf.it j ⟨hc, k0, k1, hb⟩).c), ((Hf.it j ⟨hc, k0, k1, hb⟩).k0), ((Hf.it j ⟨hc, k0, k1, hb⟩).k1), (Hf.it j ⟨hc, k0, k1, hb⟩).b⟩).c)).toNat), .int .u32 (((Hf.step ⟨((Hf.it j ⟨hc, k0, k1, hb⟩).c), ((Hf.it j ⟨hc, k0, k1, hb⟩).k0), ((Hf.it j ⟨hc, k0, k1, hb⟩).k1), (Hf.it j ⟨hc, k0, k1, hb⟩).b⟩).k0).toNat), .int .u32 (((Hf.step ⟨((Hf.it j ⟨hc, k0, k1, hb⟩).c), ((Hf.it j ⟨hc, k0, k1, hb⟩).k0), ((Hf.it j ⟨hc, k0, k1, hb⟩).k1), (Hf.it j ⟨hc, k0, k1, hb⟩).b⟩).k1).toNat), .bool ((Hf.step ⟨((Hf.it j ⟨hc, k0, k1, hb⟩).c), ((Hf.it j ⟨hc, k0, k1, hb⟩).k0), ((Hf.it j ⟨hc, k0, k1, hb⟩).k1), (Hf.it j ⟨hc, k0, k1, hb⟩).b⟩).b)]) (us := [.int .u64 ((Wd.hi ((Hf.step ⟨((Hf.it j ⟨hc, k0, k1, hb⟩).c), ((Hf.it j ⟨hc, k0, k1, hb⟩).k0), ((Hf.it j ⟨hc, k0, k1, hb⟩).k1), (Hf.it j ⟨hc, k0, k1, hb⟩).b⟩).c)).toNat), .int .u64 ((Wd.lo ((Hf.step ⟨((Hf.it j ⟨hc, k0, k1, hb⟩).c), ((Hf.it j ⟨hc, k0, k1, hb⟩).k0), ((Hf.it j ⟨hc, k0, k1, hb⟩).k1), (Hf.it j ⟨hc, k0, k1, hb⟩).b⟩).c)).toNat), .int .u32 (((Hf.step ⟨((Hf.it j ⟨hc, k0, k1, hb⟩).c), ((Hf.it j ⟨hc, k0, k1, hb⟩).k0), ((Hf.it j ⟨hc, k0, k1, hb⟩).k1), (Hf.it j ⟨hc, k0, k1, hb⟩).b⟩).k0).toNat), .int .u32 (((Hf.step ⟨((Hf.it j ⟨hc, k0, k1, hb⟩).c), ((Hf.it j ⟨hc, k0, k1, hb⟩).k0), ((Hf.it j ⟨hc, k0, k1, hb⟩).k1), (Hf.it j ⟨hc, k0, k1, hb⟩).b⟩).k1).toNat), .bool ((Hf.step ⟨((Hf.it j ⟨hc, k0, k1, hb⟩).c), ((Hf.it j ⟨hc, k0, k1, hb⟩).k0), ((Hf.it j ⟨hc, k0, k1, hb⟩).k1), (Hf.it j ⟨hc, k0, k1, hb⟩).b⟩).b)]) sz_86 F H rfl rfl rfl rfl rfl rfl rfl (Nat.le_of_ble_eq_true rfl) rfl) (Sx.wanted_none rfl _) rfl (fun A w F (H : Sx.Own w0 _ [(true, g2, [.int .u64 ((Wd.hi 0#128).toNat), .int .u64 ((Wd.lo 0#128).toNat), .int .u32 0, .int .u32 0, .bool false]), (true, g1, [.int .u64 ((Wd.hi ((Hf.step ⟨((Hf.it j ⟨hc, k0, k1, hb⟩).c), ((Hf.it j ⟨hc, k0, k1, hb⟩).k0), ((Hf.it j ⟨hc, k0, k1, hb⟩).k1), (Hf.it j ⟨hc, k0, k1, hb⟩).b⟩).c)).toNat), .int .u64 ((Wd.lo ((Hf.step ⟨((Hf.it j ⟨hc, k0, k1, hb⟩).c), ((Hf.it j ⟨hc, k0, k1, hb⟩).k0), ((Hf.it j ⟨hc, k0, k1, hb⟩).k1), (Hf.it j ⟨hc, k0, k1, hb⟩).b⟩).c)).toNat), .int .u32 (((Hf.step ⟨((Hf.it j ⟨hc, k0, k1, hb⟩).c), ((Hf.it j ⟨hc, k0, k1, hb⟩).k0), ((Hf.it j ⟨hc, k0, k1, hb⟩).k1), (Hf.it j ⟨hc, k0, k1, hb⟩).b⟩).k0).toNat), .int .u32 (((Hf.step ⟨((Hf.it j ⟨hc, k0, k1, hb⟩).c), ((Hf.it j ⟨hc, k0, k1, hb⟩).k0), ((Hf.it j ⟨hc, k0, k1, hb⟩).k1), (Hf.it j ⟨hc, k0, k1, hb⟩).b⟩).k1).toNat), .bool ((Hf.step ⟨((Hf.it j ⟨hc, k0, k1, hb⟩).c), ((Hf.it j ⟨hc, k0, k1, hb⟩).k0), ((Hf.it j ⟨hc, k0, k1, hb⟩).k1), (Hf.it j ⟨hc, k0, k1, hb⟩).b⟩).b)])] []) => ?_)
    refine Sx.nil ?_
    refine hK6 _ _ ?_
    refine Sx.plain ?_
    refine Sx.sv F (Sx.d_move F (Or.inl rfl) rfl) (Sx.wanted_none rfl _) rfl (by decide) (fun A F => ?_)
    refine Sx.sv F (Sx.d_bin (v := .int .i64 (j + 1 : Nat)) F rfl rfl rfl (Sx.i_addN rfl (Sx.in_i64 _ (by omega)))) (Sx.wanted_none rfl _) rfl (by decide) (fun A F => ?_)
    refine Sx.sv F (Sx.d_move F (Or.inr rfl) rfl) (Sx.wanted_none rfl _) rfl (by decide) (fun A F => ?_)
    refine Sx.nil ?_
    try dsimp only [Exit.then]
    exact ⟨n - (j + 1), by omega, j + 1, rfl, by omega, F.to ⟨rfl, rfl, rfl, rfl, trivial⟩, H⟩
  · obtain rfl : j = n := by omega
    refine Sx.seq (fun K7 hK7 => ?_)
    refine Sx.seq (fun K8 hK8 => ?_)
    refine Sx.plain ?_
    refine Sx.sv F (Sx.d_move F (Or.inl rfl) rfl) (Sx.wanted_none rfl _) rfl (by decide) (fun A F => ?_)
    refine Sx.sv F (Sx.d_move F (Or.inl rfl) rfl) (Sx.wanted_none rfl _) rfl (by decide) (fun A F => ?_)
    refine Sx.sv F (Sx.d_bin (v := .bool false) F rfl rfl rfl (Sx.i_lt (by simp))) (Sx.wanted_none rfl _) rfl (by decide) (fun A F => ?_)
    refine Sx.nil ?_
    refine hK8 _ _ ?_
    refine Sx.condF F rfl ?_
    refine wp_exit ?_
    try dsimp only [Exit.then, Exit.jump]
    refine Sx.exit_here ?_
    refine hK2 _ _ ?_
    refine Sx.seq (fun K9 hK9 => ?_)
    refine Sx.plain ?_
    refine Sx.sv F (Sx.d_load (i := 1) (xs := [.int .u64 ((Wd.hi ((Hf.it j ⟨hc, k0, k1, hb⟩).c)).toNat), .int .u64 ((Wd.lo ((Hf.it j ⟨hc, k0, k1, hb⟩).c)).toNat), .int .u32 (((Hf.it j ⟨hc, k0, k1, hb⟩).k0).toNat), .int .u32 (((Hf.it j ⟨hc, k0, k1, hb⟩).k1).toNat), .bool ((Hf.it j ⟨hc, k0, k1, hb⟩).b)]) rw_86 F H rfl rfl rfl rfl rfl) (Sx.wanted_none rfl _) rfl (by decide) (fun A F => ?_)
    refine Sx.ss F (Sx.d_store (i := 0) (xs := [.int .u64 ((Wd.hi ((Hf.it j ⟨hc, k0, k1, hb⟩).c)).toNat), .int .u64 ((Wd.lo ((Hf.it j ⟨hc, k0, k1, hb⟩).c)).toNat), .int .u32 (((Hf.it j ⟨hc, k0, k1, hb⟩).k0).toNat), .int .u32 (((Hf.it j ⟨hc, k0, k1, hb⟩).k1).toNat), .bool ((Hf.it j ⟨hc, k0, k1, hb⟩).b)]) (us := [.int .u64 ((Wd.hi ((Hf.it j ⟨hc, k0, k1, hb⟩).c)).toNat), .int .u64 ((Wd.lo ((Hf.it j ⟨hc, k0, k1, hb⟩).c)).toNat), .int .u32 (((Hf.it j ⟨hc, k0, k1, hb⟩).k0).toNat), .int .u32 (((Hf.it j ⟨hc, k0, k1, hb⟩).k1).toNat), .bool ((Hf.it j ⟨hc, k0, k1, hb⟩).b)]) sz_86 F H rfl rfl rfl rfl rfl rfl rfl (Nat.le_of_ble_eq_true rfl) rfl) (Sx.wanted_none rfl _) rfl (fun A w F (H : Sx.Own w0 _ [(true, g2, [.int .u64 ((Wd.hi ((Hf.it j ⟨hc, k0, k1, hb⟩).c)).toNat), .int .u64 ((Wd.lo ((Hf.it j ⟨hc, k0, k1, hb⟩).c)).toNat), .int .u32 (((Hf.it j ⟨hc, k0, k1, hb⟩).k0).toNat), .int .u32 (((Hf.it j ⟨hc, k0, k1, hb⟩).k1).toNat), .bool ((Hf.it j ⟨hc, k0, k1, hb⟩).b)]), (true, g1, [.int .u64 ((Wd.hi ((Hf.it j ⟨hc, k0, k1, hb⟩).c)).toNat), .int .u64 ((Wd.lo ((Hf.it j ⟨hc, k0, k1, hb⟩).c)).toNat), .int .u32 (((Hf.it j ⟨hc, k0, k1, hb⟩).k0).toNat), .int .u32 (((Hf.it j ⟨hc, k0, k1, hb⟩).k1).toNat), .bool ((Hf.it j ⟨hc, k0, k1, hb⟩).b)])] []) => ?_)
    refine Sx.nil ?_
    refine hK9 _ _ ?_
    refine wp_ret ?_
    try dsimp only [Exit.then, Exit.inBlock, Exit.jump]
    refine Sx.ret1 F Try.results56 (Sx.res_row (i := 0) (xs := [.int .u64 ((Wd.hi ((Hf.it j ⟨hc, k0, k1, hb⟩).c)).toNat), .int .u64 ((Wd.lo ((Hf.it j ⟨hc, k0, k1, hb⟩).c)).toNat), .int .u32 (((Hf.it j ⟨hc, k0, k1, hb⟩).k0).toNat), .int .u32 (((Hf.it j ⟨hc, k0, k1, hb⟩).k1).toNat), .bool ((Hf.it j ⟨hc, k0, k1, hb⟩).b)]) rw_86 F H rfl rfl rfl rfl) ⟨?_, H.below⟩
    rfl
theorem Hf.it_k0 (s : Hf.St) : ∀ n, (Hf.it n s).k0 = s.k0
  | 0 => rfl
  | n + 1 => Hf.it_k0 s n
theorem Hf.it_k1 (s : Hf.St) : ∀ n, (Hf.it n s).k1 = s.k1
  | 0 => rfl
  | n + 1 => Hf.it_k1 s n
theorem Hf.pos_lt (s : Hf.St) : Hf.pos s < Hf.R := by
  obtain ⟨c, k0, k1, b⟩ := s
  have := c.isLt
  cases b <;> simp [Hf.pos, Hf.R] <;> omega
theorem Hf.it_pos (s : Hf.St) : ∀ n, Hf.pos (Hf.it n s) = (Hf.pos s + n) % Hf.R
  | 0 => by show Hf.pos s = _; rw [Nat.add_zero, Nat.mod_eq_of_lt (Hf.pos_lt s)]
  | n + 1 => by
    show Hf.pos (Hf.step (Hf.it n s)) = _
    rw [Hf.step_pos, Hf.it_pos s n]; unfold Hf.R; omega
theorem Hf.jump_few (s : Hf.St) (n : Nat) (h : n < 18446744073709551616) : Hf.jump s (Wd.of (BitVec.ofNat 64 n)) = Hf.it n s := by
  refine Hf.st_ext ((Hf.jump_k0 _ _).trans (Hf.it_k0 s n).symm) ((Hf.jump_k1 _ _).trans (Hf.it_k1 s n).symm) ?_
  rw [Hf.jump_pos, Hf.it_pos, show (Wd.of (BitVec.ofNat 64 n)).toNat = n from by rw [Wd.of, Wd.mk_nat, BitVec.toNat_ofNat]; simp; omega]
set_option maxRecDepth 100000 in
theorem halfSteps_in (hc : BitVec 128) (k0 k1 : BitVec 32) (hb : Bool) (few : Nat) (hf : few ≤ 200) (w0 : World) : Calls Try.prog 13 #[.agg #[.int .u64 ((Wd.hi hc).toNat), .int .u64 ((Wd.lo hc).toNat), .int .u32 k0.toNat, .int .u32 k1.toNat, .bool hb], .int .u8 few] w0 fun e w' => e = .returned (.bool true) ∧ Below w0.heap.size w0 w' := by
  refine Sx.enter (args := [.agg #[.int .u64 ((Wd.hi hc).toNat), .int .u64 ((Wd.lo hc).toNat), .int .u32 k0.toNat, .int .u32 k1.toNat, .bool hb], .int .u8 few]) Try.func13 rfl Try.ntmps13 (Nat.le_of_ble_eq_true rfl) (fun A F => ?_)
  have H := Sx.Own.start w0
  refine Sx.seq (fun K1 hK1 => ?_)
  refine Sx.plain ?_
  refine Sx.sb F (Sx.d_box F H rfl rfl [.int .u64 ((Wd.hi hc).toNat), .int .u64 ((Wd.lo hc).toNat), .int .u32 k0.toNat, .int .u32 k1.toNat, .bool hb] rfl) (Sx.wanted_none rfl _) rfl (by decide) (fun g1 A w F H => ?_)
  refine Sx.sv F (Sx.d_move F (Or.inr rfl) rfl) (Sx.wanted_none rfl _) rfl (by decide) (fun A F => ?_)
  refine Sx.nil ?_
  refine hK1 _ _ ?_
  refine Sx.seq (fun K2 hK2 => ?_)
  refine Sx.seq (fun K3 hK3 => ?_)
  refine Sx.plain ?_
  refine Sx.sw F (Sx.d_call (vs := []) (v := .bool true) if_45 F H rfl rfl (awake12_c _)) (Sx.wanted_none rfl _) rfl (by decide) (fun A w F H => ?_)
  refine Sx.sv F (Sx.d_un (v := .bool false) F rfl rfl rfl) (Sx.wanted_none rfl _) rfl (by decide) (fun A F => ?_)
  refine Sx.nil ?_
  refine hK3 _ _ ?_
  refine Sx.condF F rfl ?_
  refine wp_skip ?_
  refine hK2 _ _ ?_
  refine Sx.seq (fun K4 hK4 => ?_)
  have F := Sx.Fr.to F (kv' := [(0, .agg #[.int .u64 ((Wd.hi hc).toNat), .int .u64 ((Wd.lo hc).toNat), .int .u32 k0.toNat, .int .u32 k1.toNat, .bool hb]), (1, .int .u8 few), (2, .pointer (some ⟨g1, 0, none⟩)), (5, .bool true), (6, .bool false)]) ⟨rfl, rfl, rfl, rfl, rfl, trivial⟩
  refine Sx.drawn F (by kernel_rfl) (by kernel_rfl) (by kernel_rfl) [some (.int .u8 few), some (.bool false), some (.bool false), some (.agg #[.int .u64 ((Wd.hi hc).toNat), .int .u64 ((Wd.lo hc).toNat), .int .u32 k0.toNat, .int .u32 k1.toNat, .bool hb]), some (.int .u8 few), some (.int .u64 ((BitVec.ofNat 64 few).toNat)), some (.agg #[.int .u64 ((Wd.hi (Wd.of (BitVec.ofNat 64 few))).toNat), .int .u64 ((Wd.lo (Wd.of (BitVec.ofNat 64 few))).toNat)]), some (.agg #[.int .u64 ((Wd.hi ((Hf.jump ⟨hc, k0, k1, hb⟩ (Wd.of (BitVec.ofNat 64 few))).c)).toNat), .int .u64 ((Wd.lo ((Hf.jump ⟨hc, k0, k1, hb⟩ (Wd.of (BitVec.ofNat 64 few))).c)).toNat), .int .u32 (((Hf.jump ⟨hc, k0, k1, hb⟩ (Wd.of (BitVec.ofNat 64 few))).k0).toNat), .int .u32 (((Hf.jump ⟨hc, k0, k1, hb⟩ (Wd.of (BitVec.ofNat 64 few))).k1).toNat), .bool ((Hf.jump ⟨hc, k0, k1, hb⟩ (Wd.of (BitVec.ofNat 64 few))).b)]), some (.agg #[.int .u64 ((Wd.hi ((Hf.jump ⟨hc, k0, k1, hb⟩ (Wd.of (BitVec.ofNat 64 few))).c)).toNat), .int .u64 ((Wd.lo ((Hf.jump ⟨hc, k0, k1, hb⟩ (Wd.of (BitVec.ofNat 64 few))).c)).toNat), .int .u32 (((Hf.jump ⟨hc, k0, k1, hb⟩ (Wd.of (BitVec.ofNat 64 few))).k0).toNat), .int .u32 (((Hf.jump ⟨hc, k0, k1, hb⟩ (Wd.of (BitVec.ofNat 64 few))).k1).toNat), .bool ((Hf.jump ⟨hc, k0, k1, hb⟩ (Wd.of (BitVec.ofNat 64 few))).b)]), some (.agg #[.int .u64 ((Wd.hi hc).toNat), .int .u64 ((Wd.lo hc).toNat), .int .u32 k0.toNat, .int .u32 k1.toNat, .bool hb]), some (.agg #[.int .u64 ((Wd.hi hc).toNat), .int .u64 ((Wd.lo hc).toNat), .int .u32 k0.toNat, .int .u32 k1.toNat, .bool hb]), some (.int .u8 few), some (.int .i64 few), some (.agg #[.int .u64 ((Wd.hi ((Hf.it few ⟨hc, k0, k1, hb⟩).c)).toNat), .int .u64 ((Wd.lo ((Hf.it few ⟨hc, k0, k1, hb⟩).c)).toNat), .int .u32 (((Hf.it few ⟨hc, k0, k1, hb⟩).k0).toNat), .int .u32 (((Hf.it few ⟨hc, k0, k1, hb⟩).k1).toNat), .bool ((Hf.it few ⟨hc, k0, k1, hb⟩).b)]), some (.bool true), some (.bool true), some (.bool true)] (fun L A w => Sx.Own w0 w [(true, g1, [.int .u64 ((Wd.hi hc).toNat), .int .u64 ((Wd.lo hc).toNat), .int .u32 k0.toNat, .int .u32 k1.toNat, .bool hb])] []) H.drew ?_ ?_
  · refine ⟨?_, ?_, ?_, ?_, ?_, ?_, ?_, ?_, ?_, ?_, ?_, ?_, ?_, ?_, ?_, ?_, ?_, trivial⟩
    · show Sx.StepAt _ _ _ _ _ _ _ 0
      intro L A w up hun hd F H
      have F := Sx.Fr.to F (kv' := [(1, .int .u8 few)]) ⟨rfl, trivial⟩
      refine Sx.step_on rfl (Sx.d_move F (Or.inl rfl) rfl) ?_
      rintro xv w' ⟨hx, rfl⟩
      exact ⟨(fun cv hc => hx.trans (Option.some.inj (Option.some.inj hc))), H⟩
    · show Sx.StepAt _ _ _ _ _ _ _ 1
      intro L A w up hun hd F H
      have F := Sx.Fr.to F (kv' := [(7, .int .u8 few)]) ⟨rfl, trivial⟩
      refine Sx.step_on rfl (Sx.d_bin (v := .bool false) F rfl rfl rfl (Sx.i_gt (decide_eq_false (by omega)))) ?_
      rintro xv w' ⟨hx, rfl⟩
      exact ⟨(fun cv hc => hx.trans (Option.some.inj (Option.some.inj hc))), H⟩
    · show Sx.StepAt _ _ _ _ _ _ _ 2
      intro L A w up hun hd F H
      have F := Sx.Fr.to F (kv' := [(8, .bool false)]) ⟨rfl, trivial⟩
      refine Sx.step_on rfl (Sx.d_move F (Or.inl rfl) rfl) ?_
      rintro xv w' ⟨hx, rfl⟩
      exact ⟨(fun cv hc => hx.trans (Option.some.inj (Option.some.inj hc))), H⟩
    · show Sx.StepAt _ _ _ _ _ _ _ 3
      intro L A w up hun hd F H
      have F := Sx.Fr.to F (kv' := [(2, .pointer (some ⟨g1, 0, none⟩)), (9, .bool false)]) ⟨rfl, rfl, trivial⟩
      refine Sx.step_ong rfl (Sx.guard_known (d := 9) (b := false) F rfl rfl) rfl (Sx.d_load (i := 0) (xs := [.int .u64 ((Wd.hi hc).toNat), .int .u64 ((Wd.lo hc).toNat), .int .u32 k0.toNat, .int .u32 k1.toNat, .bool hb]) rw_82 F H rfl rfl rfl rfl rfl) ?_
      rintro xv w' ⟨hx, rfl⟩
      exact ⟨(fun cv hc => hx.trans (Option.some.inj (Option.some.inj hc))), H⟩
    · show Sx.StepAt _ _ _ _ _ _ _ 4
      intro L A w up hun hd F H
      have F := Sx.Fr.to F (kv' := [(1, .int .u8 few), (9, .bool false)]) ⟨rfl, rfl, trivial⟩
      refine Sx.step_ong rfl (Sx.guard_known (d := 9) (b := false) F rfl rfl) rfl (Sx.d_move F (Or.inl rfl) rfl) ?_
      rintro xv w' ⟨hx, rfl⟩
      exact ⟨(fun cv hc => hx.trans (Option.some.inj (Option.some.inj hc))), H⟩
    · show Sx.StepAt _ _ _ _ _ _ _ 5
      intro L A w up hun hd F H
      have F := Sx.Fr.to F (kv' := [(11, .int .u8 few), (9, .bool false)]) ⟨rfl, rfl, trivial⟩
      refine Sx.step_ong rfl (Sx.guard_known (d := 9) (b := false) F rfl rfl) rfl (Sx.d_conv (v := .int .u64 ((BitVec.ofNat 64 few).toNat)) F rfl rfl (Sx.c_u8_u64 few (by omega) _)) ?_
      rintro xv w' ⟨hx, rfl⟩
      exact ⟨(fun cv hc => hx.trans (Option.some.inj (Option.some.inj hc))), H⟩
    · show Sx.StepAt _ _ _ _ _ _ _ 6
      intro L A w up hun hd F H
      have F := Sx.Fr.to F (kv' := [(12, .int .u64 ((BitVec.ofNat 64 few).toNat)), (9, .bool false)]) ⟨rfl, rfl, trivial⟩
      refine Sx.step_ong rfl (Sx.guard_known (d := 9) (b := false) F rfl rfl) rfl (Sx.d_call (vs := [.int .u64 ((BitVec.ofNat 64 few).toNat)]) (v := .agg #[.int .u64 ((Wd.hi (Wd.of (BitVec.ofNat 64 few))).toNat), .int .u64 ((Wd.lo (Wd.of (BitVec.ofNat 64 few))).toNat)]) if_29 F H rfl rfl (wofV_c (BitVec.ofNat 64 few) _)) ?_
      rintro xv w' ⟨hx, H⟩
      exact ⟨(fun cv hc => hx.trans (Option.some.inj (Option.some.inj hc))), H⟩
    · show Sx.StepAt _ _ _ _ _ _ _ 7
      intro L A w up hun hd F H
      have F := Sx.Fr.to F (kv' := [(10, .agg #[.int .u64 ((Wd.hi hc).toNat), .int .u64 ((Wd.lo hc).toNat), .int .u32 k0.toNat, .int .u32 k1.toNat, .bool hb]), (13, .agg #[.int .u64 ((Wd.hi (Wd.of (BitVec.ofNat 64 few))).toNat), .int .u64 ((Wd.lo (Wd.of (BitVec.ofNat 64 few))).toNat)]), (9, .bool false)]) ⟨rfl, rfl, rfl, trivial⟩
      refine Sx.step_ong rfl (Sx.guard_known (d := 9) (b := false) F rfl rfl) rfl (Sx.d_call (vs := [.agg #[.int .u64 ((Wd.hi hc).toNat), .int .u64 ((Wd.lo hc).toNat), .int .u32 k0.toNat, .int .u32 k1.toNat, .bool hb], .agg #[.int .u64 ((Wd.hi (Wd.of (BitVec.ofNat 64 few))).toNat), .int .u64 ((Wd.lo (Wd.of (BitVec.ofNat 64 few))).toNat)]]) (v := .agg #[.int .u64 ((Wd.hi ((Hf.jump ⟨hc, k0, k1, hb⟩ (Wd.of (BitVec.ofNat 64 few))).c)).toNat), .int .u64 ((Wd.lo ((Hf.jump ⟨hc, k0, k1, hb⟩ (Wd.of (BitVec.ofNat 64 few))).c)).toNat), .int .u32 (((Hf.jump ⟨hc, k0, k1, hb⟩ (Wd.of (BitVec.ofNat 64 few))).k0).toNat), .int .u32 (((Hf.jump ⟨hc, k0, k1, hb⟩ (Wd.of (BitVec.ofNat 64 few))).k1).toNat), .bool ((Hf.jump ⟨hc, k0, k1, hb⟩ (Wd.of (BitVec.ofNat 64 few))).b)]) if_52 F H rfl rfl (hjump_c hc k0 k1 hb (Wd.of (BitVec.ofNat 64 few)) _)) ?_
      rintro xv w' ⟨hx, H⟩
      exact ⟨(fun cv hc => hx.trans (Option.some.inj (Option.some.inj hc))), H⟩
    · show Sx.StepAt _ _ _ _ _ _ _ 8
      intro L A w up hun hd F H
      have F := Sx.Fr.to F (kv' := [(14, .agg #[.int .u64 ((Wd.hi ((Hf.jump ⟨hc, k0, k1, hb⟩ (Wd.of (BitVec.ofNat 64 few))).c)).toNat), .int .u64 ((Wd.lo ((Hf.jump ⟨hc, k0, k1, hb⟩ (Wd.of (BitVec.ofNat 64 few))).c)).toNat), .int .u32 (((Hf.jump ⟨hc, k0, k1, hb⟩ (Wd.of (BitVec.ofNat 64 few))).k0).toNat), .int .u32 (((Hf.jump ⟨hc, k0, k1, hb⟩ (Wd.of (BitVec.ofNat 64 few))).k1).toNat), .bool ((Hf.jump ⟨hc, k0, k1, hb⟩ (Wd.of (BitVec.ofNat 64 few))).b)]), (9, .bool false)]) ⟨rfl, rfl, trivial⟩
      refine Sx.step_ong rfl (Sx.guard_known (d := 9) (b := false) F rfl rfl) rfl (Sx.d_call (vs := [.agg #[.int .u64 ((Wd.hi ((Hf.jump ⟨hc, k0, k1, hb⟩ (Wd.of (BitVec.ofNat 64 few))).c)).toNat), .int .u64 ((Wd.lo ((Hf.jump ⟨hc, k0, k1, hb⟩ (Wd.of (BitVec.ofNat 64 few))).c)).toNat), .int .u32 (((Hf.jump ⟨hc, k0, k1, hb⟩ (Wd.of (BitVec.ofNat 64 few))).k0).toNat), .int .u32 (((Hf.jump ⟨hc, k0, k1, hb⟩ (Wd.of (BitVec.ofNat 64 few))).k1).toNat), .bool ((Hf.jump ⟨hc, k0, k1, hb⟩ (Wd.of (BitVec.ofNat 64 few))).b)]]) (v := .agg #[.int .u64 ((Wd.hi ((Hf.jump ⟨hc, k0, k1, hb⟩ (Wd.of (BitVec.ofNat 64 few))).c)).toNat), .int .u64 ((Wd.lo ((Hf.jump ⟨hc, k0, k1, hb⟩ (Wd.of (BitVec.ofNat 64 few))).c)).toNat), .int .u32 (((Hf.jump ⟨hc, k0, k1, hb⟩ (Wd.of (BitVec.ofNat 64 few))).k0).toNat), .int .u32 (((Hf.jump ⟨hc, k0, k1, hb⟩ (Wd.of (BitVec.ofNat 64 few))).k1).toNat), .bool ((Hf.jump ⟨hc, k0, k1, hb⟩ (Wd.of (BitVec.ofNat 64 few))).b)]) if_47 F H rfl rfl (own12_c ((Hf.jump ⟨hc, k0, k1, hb⟩ (Wd.of (BitVec.ofNat 64 few))).c) ((Hf.jump ⟨hc, k0, k1, hb⟩ (Wd.of (BitVec.ofNat 64 few))).k0) ((Hf.jump ⟨hc, k0, k1, hb⟩ (Wd.of (BitVec.ofNat 64 few))).k1) ((Hf.jump ⟨hc, k0, k1, hb⟩ (Wd.of (BitVec.ofNat 64 few))).b) _)) ?_
      rintro xv w' ⟨hx, H⟩
      exact ⟨(fun cv hc => hx.trans (Option.some.inj (Option.some.inj hc))), H⟩
    · show Sx.StepAt _ _ _ _ _ _ _ 9
      intro L A w up hun hd F H
      have F := Sx.Fr.to F (kv' := [(2, .pointer (some ⟨g1, 0, none⟩)), (9, .bool false)]) ⟨rfl, rfl, trivial⟩
      refine Sx.step_ong rfl (Sx.guard_known (d := 9) (b := false) F rfl rfl) rfl (Sx.d_load (i := 0) (xs := [.int .u64 ((Wd.hi hc).toNat), .int .u64 ((Wd.lo hc).toNat), .int .u32 k0.toNat, .int .u32 k1.toNat, .bool hb]) rw_82 F H rfl rfl rfl rfl rfl) ?_
      rintro xv w' ⟨hx, rfl⟩
      exact ⟨(fun cv hc => hx.trans (Option.some.inj (Option.some.inj hc))), H⟩
    · show Sx.StepAt _ _ _ _ _ _ _ 10
      intro L A w up hun hd F H
      have F := Sx.Fr.to F (kv' := [(16, .agg #[.int .u64 ((Wd.hi hc).toNat), .int .u64 ((Wd.lo hc).toNat), .int .u32 k0.toNat, .int .u32 k1.toNat, .bool hb]), (9, .bool false)]) ⟨rfl, rfl, trivial⟩
      refine Sx.step_ong rfl (Sx.guard_known (d := 9) (b := false) F rfl rfl) rfl (Sx.d_call (vs := [.agg #[.int .u64 ((Wd.hi hc).toNat), .int .u64 ((Wd.lo hc).toNat), .int .u32 k0.toNat, .int .u32 k1.toNat, .bool hb]]) (v := .agg #[.int .u64 ((Wd.hi hc).toNat), .int .u64 ((Wd.lo hc).toNat), .int .u32 k0.toNat, .int .u32 k1.toNat, .bool hb]) if_47 F H rfl rfl (own12_c hc k0 k1 hb _)) ?_
      rintro xv w' ⟨hx, H⟩
      exact ⟨(fun cv hc => hx.trans (Option.some.inj (Option.some.inj hc))), H⟩
    · show Sx.StepAt _ _ _ _ _ _ _ 11
      intro L A w up hun hd F H
      have F := Sx.Fr.to F (kv' := [(1, .int .u8 few), (9, .bool false)]) ⟨rfl, rfl, trivial⟩
      refine Sx.step_ong rfl (Sx.guard_known (d := 9) (b := false) F rfl rfl) rfl (Sx.d_move F (Or.inl rfl) rfl) ?_
      rintro xv w' ⟨hx, rfl⟩
      exact ⟨(fun cv hc => hx.trans (Option.some.inj (Option.some.inj hc))), H⟩
    · show Sx.StepAt _ _ _ _ _ _ _ 12
      intro L A w up hun hd F H
      have F := Sx.Fr.to F (kv' := [(18, .int .u8 few), (9, .bool false)]) ⟨rfl, rfl, trivial⟩
      refine Sx.step_ong rfl (Sx.guard_known (d := 9) (b := false) F rfl rfl) rfl (Sx.d_conv (v := .int .i64 few) F rfl rfl (Sx.c_u8_i64 few (by omega))) ?_
      rintro xv w' ⟨hx, rfl⟩
      exact ⟨(fun cv hc => hx.trans (Option.some.inj (Option.some.inj hc))), H⟩
    · show Sx.StepAt _ _ _ _ _ _ _ 13
      intro L A w up hun hd F H
      have F := Sx.Fr.to F (kv' := [(17, .agg #[.int .u64 ((Wd.hi hc).toNat), .int .u64 ((Wd.lo hc).toNat), .int .u32 k0.toNat, .int .u32 k1.toNat, .bool hb]), (19, .int .i64 few), (9, .bool false)]) ⟨rfl, rfl, rfl, trivial⟩
      refine Sx.step_ong rfl (Sx.guard_known (d := 9) (b := false) F rfl rfl) rfl (Sx.d_call (vs := [.agg #[.int .u64 ((Wd.hi hc).toNat), .int .u64 ((Wd.lo hc).toNat), .int .u32 k0.toNat, .int .u32 k1.toNat, .bool hb], .int .i64 few]) (v := .agg #[.int .u64 ((Wd.hi ((Hf.it few ⟨hc, k0, k1, hb⟩).c)).toNat), .int .u64 ((Wd.lo ((Hf.it few ⟨hc, k0, k1, hb⟩).c)).toNat), .int .u32 (((Hf.it few ⟨hc, k0, k1, hb⟩).k0).toNat), .int .u32 (((Hf.it few ⟨hc, k0, k1, hb⟩).k1).toNat), .bool ((Hf.it few ⟨hc, k0, k1, hb⟩).b)]) if_56 F H rfl rfl (rjump12_c hc k0 k1 hb few (by omega) _)) ?_
      rintro xv w' ⟨hx, H⟩
      exact ⟨(fun cv hc => hx.trans (Option.some.inj (Option.some.inj hc))), H⟩
    · show Sx.StepAt _ _ _ _ _ _ _ 14
      intro L A w up hun hd F H
      have F := Sx.Fr.to F (kv' := [(15, .agg #[.int .u64 ((Wd.hi ((Hf.jump ⟨hc, k0, k1, hb⟩ (Wd.of (BitVec.ofNat 64 few))).c)).toNat), .int .u64 ((Wd.lo ((Hf.jump ⟨hc, k0, k1, hb⟩ (Wd.of (BitVec.ofNat 64 few))).c)).toNat), .int .u32 (((Hf.jump ⟨hc, k0, k1, hb⟩ (Wd.of (BitVec.ofNat 64 few))).k0).toNat), .int .u32 (((Hf.jump ⟨hc, k0, k1, hb⟩ (Wd.of (BitVec.ofNat 64 few))).k1).toNat), .bool ((Hf.jump ⟨hc, k0, k1, hb⟩ (Wd.of (BitVec.ofNat 64 few))).b)]), (20, .agg #[.int .u64 ((Wd.hi ((Hf.it few ⟨hc, k0, k1, hb⟩).c)).toNat), .int .u64 ((Wd.lo ((Hf.it few ⟨hc, k0, k1, hb⟩).c)).toNat), .int .u32 (((Hf.it few ⟨hc, k0, k1, hb⟩).k0).toNat), .int .u32 (((Hf.it few ⟨hc, k0, k1, hb⟩).k1).toNat), .bool ((Hf.it few ⟨hc, k0, k1, hb⟩).b)]), (9, .bool false)]) ⟨rfl, rfl, rfl, trivial⟩
      refine Sx.step_ong rfl (Sx.guard_known (d := 9) (b := false) F rfl rfl) rfl (Sx.d_bin (v := .bool true) F rfl rfl rfl (Sx.i_eqG (Sx.eqbH_true (Hf.jump_few _ few (by omega))))) ?_
      rintro xv w' ⟨hx, rfl⟩
      exact ⟨(fun cv hc => hx.trans (Option.some.inj (Option.some.inj hc))), H⟩
    · show Sx.StepAt _ _ _ _ _ _ _ 15
      intro L A w up hun hd F H
      have F := Sx.Fr.to F (kv' := [(9, .bool false), (21, .bool true)]) ⟨rfl, rfl, trivial⟩
      refine Sx.step_on rfl (Sx.d_pickF (v := .bool true) F rfl rfl rfl) ?_
      rintro xv w' ⟨hx, rfl⟩
      exact ⟨(fun cv hc => hx.trans (Option.some.inj (Option.some.inj hc))), H⟩
    · show Sx.StepAt _ _ _ _ _ _ _ 16
      intro L A w up hun hd F H
      have F := Sx.Fr.to F (kv' := [(22, .bool true)]) ⟨rfl, trivial⟩
      refine Sx.step_on rfl (Sx.d_move F (Or.inr rfl) rfl) ?_
      rintro xv w' ⟨hx, rfl⟩
      exact ⟨(fun cv hc => hx.trans (Option.some.inj (Option.some.inj hc))), H⟩
  · intro L A w hL F H
    have F := Sx.Fr.to F (kv' := [(0, .agg #[.int .u64 ((Wd.hi hc).toNat), .int .u64 ((Wd.lo hc).toNat), .int .u32 k0.toNat, .int .u32 k1.toNat, .bool hb]), (5, .bool true), (6, .bool false), (4, .bool true)]) ⟨rfl, rfl, rfl, rfl, trivial⟩
    refine hK4 _ _ ?_
    refine wp_ret ?_
    try dsimp only [Exit.then, Exit.inBlock, Exit.jump]
    refine Sx.ret1 F Try.results13 (Sx.res_tmp (v := .bool true) F rfl) ⟨?_, H.below⟩
    rfl
set_option maxRecDepth 100000 in
theorem halfSteps_out (hc : BitVec 128) (k0 k1 : BitVec 32) (hb : Bool) (few : Nat) (hf : 200 < few) (w0 : World) : Calls Try.prog 13 #[.agg #[.int .u64 ((Wd.hi hc).toNat), .int .u64 ((Wd.lo hc).toNat), .int .u32 k0.toNat, .int .u32 k1.toNat, .bool hb], .int .u8 few] w0 fun e w' => e = .returned (.bool true) ∧ Below w0.heap.size w0 w' := by
  refine Sx.enter (args := [.agg #[.int .u64 ((Wd.hi hc).toNat), .int .u64 ((Wd.lo hc).toNat), .int .u32 k0.toNat, .int .u32 k1.toNat, .bool hb], .int .u8 few]) Try.func13 rfl Try.ntmps13 (Nat.le_of_ble_eq_true rfl) (fun A F => ?_)
  have H := Sx.Own.start w0
  refine Sx.seq (fun K1 hK1 => ?_)
  refine Sx.plain ?_
  refine Sx.sb F (Sx.d_box F H rfl rfl [.int .u64 ((Wd.hi hc).toNat), .int .u64 ((Wd.lo hc).toNat), .int .u32 k0.toNat, .int .u32 k1.toNat, .bool hb] rfl) (Sx.wanted_none rfl _) rfl (by decide) (fun g1 A w F H => ?_)
  refine Sx.sv F (Sx.d_move F (Or.inr rfl) rfl) (Sx.wanted_none rfl _) rfl (by decide) (fun A F => ?_)
  refine Sx.nil ?_
  refine hK1 _ _ ?_
  refine Sx.seq (fun K2 hK2 => ?_)
  refine Sx.seq (fun K3 hK3 => ?_)
  refine Sx.plain ?_
  refine Sx.sw F (Sx.d_call (vs := []) (v := .bool true) if_45 F H rfl rfl (awake12_c _)) (Sx.wanted_none rfl _) rfl (by decide) (fun A w F H => ?_)
  refine Sx.sv F (Sx.d_un (v := .bool false) F rfl rfl rfl) (Sx.wanted_none rfl _) rfl (by decide) (fun A F => ?_)
  refine Sx.nil ?_
  refine hK3 _ _ ?_
  refine Sx.condF F rfl ?_
  refine wp_skip ?_
  refine hK2 _ _ ?_
  refine Sx.seq (fun K4 hK4 => ?_)
  have F := Sx.Fr.to F (kv' := [(0, .agg #[.int .u64 ((Wd.hi hc).toNat), .int .u64 ((Wd.lo hc).toNat), .int .u32 k0.toNat, .int .u32 k1.toNat, .bool hb]), (1, .int .u8 few), (2, .pointer (some ⟨g1, 0, none⟩)), (5, .bool true), (6, .bool false)]) ⟨rfl, rfl, rfl, rfl, rfl, trivial⟩
  refine Sx.drawn F (by kernel_rfl) (by kernel_rfl) (by kernel_rfl) [some (.int .u8 few), some (.bool true), some (.bool true), some (undef), some (undef), some (undef), some (undef), some (undef), some (undef), some (undef), some (undef), some (undef), some (undef), some (undef), some (undef), some (.bool true), some (.bool true)] (fun L A w => Sx.Own w0 w [(true, g1, [.int .u64 ((Wd.hi hc).toNat), .int .u64 ((Wd.lo hc).toNat), .int .u32 k0.toNat, .int .u32 k1.toNat, .bool hb])] []) H.drew ?_ ?_
  · refine ⟨?_, ?_, ?_, ?_, ?_, ?_, ?_, ?_, ?_, ?_, ?_, ?_, ?_, ?_, ?_, ?_, ?_, trivial⟩
    · show Sx.StepAt _ _ _ _ _ _ _ 0
      intro L A w up hun hd F H
      have F := Sx.Fr.to F (kv' := [(1, .int .u8 few)]) ⟨rfl, trivial⟩
      refine Sx.step_on rfl (Sx.d_move F (Or.inl rfl) rfl) ?_
      rintro xv w' ⟨hx, rfl⟩
      exact ⟨(fun cv hc => hx.trans (Option.some.inj (Option.some.inj hc))), H⟩
    · show Sx.StepAt _ _ _ _ _ _ _ 1
      intro L A w up hun hd F H
      have F := Sx.Fr.to F (kv' := [(7, .int .u8 few)]) ⟨rfl, trivial⟩
      refine Sx.step_on rfl (Sx.d_bin (v := .bool true) F rfl rfl rfl (Sx.i_gt (decide_eq_true (by omega)))) ?_
      rintro xv w' ⟨hx, rfl⟩
      exact ⟨(fun cv hc => hx.trans (Option.some.inj (Option.some.inj hc))), H⟩
    · show Sx.StepAt _ _ _ _ _ _ _ 2
      intro L A w up hun hd F H
      have F := Sx.Fr.to F (kv' := [(8, .bool true)]) ⟨rfl, trivial⟩
      refine Sx.step_on rfl (Sx.d_move F (Or.inl rfl) rfl) ?_
      rintro xv w' ⟨hx, rfl⟩
      exact ⟨(fun cv hc => hx.trans (Option.some.inj (Option.some.inj hc))), H⟩
    · show Sx.StepAt _ _ _ _ _ _ _ 3
      intro L A w up hun hd F H
      have F := Sx.Fr.to F (kv' := [(2, .pointer (some ⟨g1, 0, none⟩)), (9, .bool true)]) ⟨rfl, rfl, trivial⟩
      exact Sx.step_off rfl (Sx.guard_known (d := 9) (b := true) F rfl rfl) rfl ⟨(fun cv hc => Option.some.inj (Option.some.inj hc)), H⟩
    · show Sx.StepAt _ _ _ _ _ _ _ 4
      intro L A w up hun hd F H
      have F := Sx.Fr.to F (kv' := [(1, .int .u8 few), (9, .bool true)]) ⟨rfl, rfl, trivial⟩
      exact Sx.step_off rfl (Sx.guard_known (d := 9) (b := true) F rfl rfl) rfl ⟨(fun cv hc => Option.some.inj (Option.some.inj hc)), H⟩
    · show Sx.StepAt _ _ _ _ _ _ _ 5
      intro L A w up hun hd F H
      have F := Sx.Fr.to F (kv' := [(11, undef), (9, .bool true)]) ⟨rfl, rfl, trivial⟩
      exact Sx.step_off rfl (Sx.guard_known (d := 9) (b := true) F rfl rfl) rfl ⟨(fun cv hc => Option.some.inj (Option.some.inj hc)), H⟩
    · show Sx.StepAt _ _ _ _ _ _ _ 6
      intro L A w up hun hd F H
      have F := Sx.Fr.to F (kv' := [(12, undef), (9, .bool true)]) ⟨rfl, rfl, trivial⟩
      exact Sx.step_off rfl (Sx.guard_known (d := 9) (b := true) F rfl rfl) rfl ⟨(fun cv hc => Option.some.inj (Option.some.inj hc)), H⟩
    · show Sx.StepAt _ _ _ _ _ _ _ 7
      intro L A w up hun hd F H
      have F := Sx.Fr.to F (kv' := [(10, undef), (13, undef), (9, .bool true)]) ⟨rfl, rfl, rfl, trivial⟩
      exact Sx.step_off rfl (Sx.guard_known (d := 9) (b := true) F rfl rfl) rfl ⟨(fun cv hc => Option.some.inj (Option.some.inj hc)), H⟩
    · show Sx.StepAt _ _ _ _ _ _ _ 8
      intro L A w up hun hd F H
      have F := Sx.Fr.to F (kv' := [(14, undef), (9, .bool true)]) ⟨rfl, rfl, trivial⟩
      exact Sx.step_off rfl (Sx.guard_known (d := 9) (b := true) F rfl rfl) rfl ⟨(fun cv hc => Option.some.inj (Option.some.inj hc)), H⟩
    · show Sx.StepAt _ _ _ _ _ _ _ 9
      intro L A w up hun hd F H
      have F := Sx.Fr.to F (kv' := [(2, .pointer (some ⟨g1, 0, none⟩)), (9, .bool true)]) ⟨rfl, rfl, trivial⟩
      exact Sx.step_off rfl (Sx.guard_known (d := 9) (b := true) F rfl rfl) rfl ⟨(fun cv hc => Option.some.inj (Option.some.inj hc)), H⟩
    · show Sx.StepAt _ _ _ _ _ _ _ 10
      intro L A w up hun hd F H
      have F := Sx.Fr.to F (kv' := [(16, undef), (9, .bool true)]) ⟨rfl, rfl, trivial⟩
      exact Sx.step_off rfl (Sx.guard_known (d := 9) (b := true) F rfl rfl) rfl ⟨(fun cv hc => Option.some.inj (Option.some.inj hc)), H⟩
    · show Sx.StepAt _ _ _ _ _ _ _ 11
      intro L A w up hun hd F H
      have F := Sx.Fr.to F (kv' := [(1, .int .u8 few), (9, .bool true)]) ⟨rfl, rfl, trivial⟩
      exact Sx.step_off rfl (Sx.guard_known (d := 9) (b := true) F rfl rfl) rfl ⟨(fun cv hc => Option.some.inj (Option.some.inj hc)), H⟩
    · show Sx.StepAt _ _ _ _ _ _ _ 12
      intro L A w up hun hd F H
      have F := Sx.Fr.to F (kv' := [(18, undef), (9, .bool true)]) ⟨rfl, rfl, trivial⟩
      exact Sx.step_off rfl (Sx.guard_known (d := 9) (b := true) F rfl rfl) rfl ⟨(fun cv hc => Option.some.inj (Option.some.inj hc)), H⟩
    · show Sx.StepAt _ _ _ _ _ _ _ 13
      intro L A w up hun hd F H
      have F := Sx.Fr.to F (kv' := [(17, undef), (19, undef), (9, .bool true)]) ⟨rfl, rfl, rfl, trivial⟩
      exact Sx.step_off rfl (Sx.guard_known (d := 9) (b := true) F rfl rfl) rfl ⟨(fun cv hc => Option.some.inj (Option.some.inj hc)), H⟩
    · show Sx.StepAt _ _ _ _ _ _ _ 14
      intro L A w up hun hd F H
      have F := Sx.Fr.to F (kv' := [(15, undef), (20, undef), (9, .bool true)]) ⟨rfl, rfl, rfl, trivial⟩
      exact Sx.step_off rfl (Sx.guard_known (d := 9) (b := true) F rfl rfl) rfl ⟨(fun cv hc => Option.some.inj (Option.some.inj hc)), H⟩
    · show Sx.StepAt _ _ _ _ _ _ _ 15
      intro L A w up hun hd F H
      have F := Sx.Fr.to F (kv' := [(9, .bool true), (21, undef)]) ⟨rfl, rfl, trivial⟩
      refine Sx.step_on rfl (Sx.d_pickT (v := .bool true) F rfl rfl rfl) ?_
      rintro xv w' ⟨hx, rfl⟩
      exact ⟨(fun cv hc => hx.trans (Option.some.inj (Option.some.inj hc))), H⟩
    · show Sx.StepAt _ _ _ _ _ _ _ 16
      intro L A w up hun hd F H
      have F := Sx.Fr.to F (kv' := [(22, .bool true)]) ⟨rfl, trivial⟩
      refine Sx.step_on rfl (Sx.d_move F (Or.inr rfl) rfl) ?_
      rintro xv w' ⟨hx, rfl⟩
      exact ⟨(fun cv hc => hx.trans (Option.some.inj (Option.some.inj hc))), H⟩
  · intro L A w hL F H
    have F := Sx.Fr.to F (kv' := [(0, .agg #[.int .u64 ((Wd.hi hc).toNat), .int .u64 ((Wd.lo hc).toNat), .int .u32 k0.toNat, .int .u32 k1.toNat, .bool hb]), (5, .bool true), (6, .bool false), (4, .bool true)]) ⟨rfl, rfl, rfl, rfl, trivial⟩
    refine hK4 _ _ ?_
    refine wp_ret ?_
    try dsimp only [Exit.then, Exit.inBlock, Exit.jump]
    refine Sx.ret1 F Try.results13 (Sx.res_tmp (v := .bool true) F rfl) ⟨?_, H.below⟩
    rfl
theorem halfSteps_walk (c : BitVec 128) (k0 k1 : BitVec 32) (b : Bool) (few : Nat) (w : World) : Calls Try.prog 13 #[.agg #[.int .u64 (Wd.hi c).toNat, .int .u64 (Wd.lo c).toNat, .int .u32 k0.toNat, .int .u32 k1.toNat, .bool b], .int .u8 few] w fun e w' => e = .returned (.bool true) ∧ Below w.heap.size w w' := by
  by_cases h : few ≤ 200
  · exact halfSteps_in c k0 k1 b few h w
  · exact halfSteps_out c k0 k1 b few (by omega) w
end Go.Proofs.Ytpbdffmgendboaa
