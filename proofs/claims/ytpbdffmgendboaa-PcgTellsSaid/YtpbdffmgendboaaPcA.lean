/- The law's own calls (pcg): each answers as the law asks. -/
import Derived.Test.YtpbdffmgendboaaPcW
import Derived.Test.YtpbdffmgendboaaWords
namespace Go.Proofs.Ytpbdffmgendboaa
open Go Go.RowKit
set_option maxHeartbeats 4000000 in
set_option maxRecDepth 100000 in
theorem awake10_c  (w0 : World) : Calls Try.prog 32 #[] w0 fun e w' => e = .returned (.bool true) ∧ Below w0.heap.size w0 w' := by
  refine Sx.enter (args := []) Try.func32 rfl Try.ntmps32 (Nat.le_of_ble_eq_true rfl) (fun A F => ?_)
  have H := Sx.Own.start w0
  refine Sx.seq (fun K1 hK1 => ?_)
  refine Sx.plain ?_
  refine Sx.sv F (Sx.d_move F (Or.inr rfl) rfl) (Sx.wanted_none rfl _) rfl (by decide) (fun A F => ?_)
  refine Sx.nil ?_
  refine hK1 _ _ ?_
  refine Sx.seq (fun K2 hK2 => ?_)
  refine Sx.plain ?_
  refine Sx.sw F (Sx.d_call (vs := [.int .u64 1]) (v := .agg #[.int .u64 ((Wd.hi 1#128).toNat), .int .u64 ((Wd.lo 1#128).toNat)]) if_29 F H rfl rfl (Calls.val (wofV_c 1#64 _) (by kernel_rfl) (by kernel_rfl))) (Sx.wanted_none rfl _) rfl (by decide) (fun A w F H => ?_)
  refine Sx.sv F (Sx.d_build (qs := #[(1, .agg #[.int .u64 ((Wd.hi 1#128).toNat), .int .u64 ((Wd.lo 1#128).toNat)])]) (v := .agg #[.int .u64 ((Wd.hi 0#128).toNat), .int .u64 ((Wd.lo 0#128).toNat), .int .u64 ((Wd.hi 1#128).toNat), .int .u64 ((Wd.lo 1#128).toNat)]) F rfl rfl (by kernel_rfl)) (Sx.wanted_none rfl _) rfl (by decide) (fun A F => ?_)
  refine Sx.sb F (Sx.d_alloc H rfl [.int .u64 ((Wd.hi 0#128).toNat), .int .u64 ((Wd.lo 0#128).toNat), .int .u64 ((Wd.hi 0#128).toNat), .int .u64 ((Wd.lo 0#128).toNat)] zero_57) (Sx.wanted_none rfl _) rfl (by decide) (fun g1 A w F H => ?_)
  refine Sx.ss F (Sx.d_store (i := 0) (xs := [.int .u64 ((Wd.hi 0#128).toNat), .int .u64 ((Wd.lo 0#128).toNat), .int .u64 ((Wd.hi 1#128).toNat), .int .u64 ((Wd.lo 1#128).toNat)]) (us := [.int .u64 ((Wd.hi 0#128).toNat), .int .u64 ((Wd.lo 0#128).toNat), .int .u64 ((Wd.hi 1#128).toNat), .int .u64 ((Wd.lo 1#128).toNat)]) sz_57 F H rfl rfl rfl rfl rfl rfl rfl (Nat.le_of_ble_eq_true rfl) rfl) (Sx.wanted_none rfl _) rfl (fun A w F (H : Sx.Own w0 _ [(true, g1, [.int .u64 ((Wd.hi 0#128).toNat), .int .u64 ((Wd.lo 0#128).toNat), .int .u64 ((Wd.hi 1#128).toNat), .int .u64 ((Wd.lo 1#128).toNat)])] []) => ?_)
  refine Sx.nil ?_
  refine hK2 _ _ ?_
  refine Sx.seq (fun K3 hK3 => ?_)
  refine Sx.plain ?_
  refine Sx.sv F (Sx.d_load (i := 0) (xs := [.int .u64 ((Wd.hi 0#128).toNat), .int .u64 ((Wd.lo 0#128).toNat), .int .u64 ((Wd.hi 1#128).toNat), .int .u64 ((Wd.lo 1#128).toNat)]) rw_57 F H rfl rfl rfl rfl rfl) (Sx.wanted_none rfl _) rfl (by decide) (fun A F => ?_)
  refine Sx.sw F (Sx.d_call (vs := [.agg #[.int .u64 ((Wd.hi 0#128).toNat), .int .u64 ((Wd.lo 0#128).toNat), .int .u64 ((Wd.hi 1#128).toNat), .int .u64 ((Wd.lo 1#128).toNat)]]) (v := .agg #[.int .u64 ((Wd.hi ((Pc.step ⟨0#128, 1#128⟩).s)).toNat), .int .u64 ((Wd.lo ((Pc.step ⟨0#128, 1#128⟩).s)).toNat), .int .u64 ((Wd.hi 1#128).toNat), .int .u64 ((Wd.lo 1#128).toNat)]) if_36 F H rfl rfl (pstep_c 0#128 1#128 _)) (Sx.wanted_none rfl _) rfl (by decide) (fun A w F H => ?_)
  refine Sx.sb F (Sx.d_alloc H rfl [.int .u64 ((Wd.hi 0#128).toNat), .int .u64 ((Wd.lo 0#128).toNat), .int .u64 ((Wd.hi 0#128).toNat), .int .u64 ((Wd.lo 0#128).toNat)] zero_57) (Sx.wanted_none rfl _) rfl (by decide) (fun g2 A w F H => ?_)
  refine Sx.ss F (Sx.d_store (i := 0) (xs := [.int .u64 ((Wd.hi ((Pc.step ⟨0#128, 1#128⟩).s)).toNat), .int .u64 ((Wd.lo ((Pc.step ⟨0#128, 1#128⟩).s)).toNat), .int .u64 ((Wd.hi 1#128).toNat), .int .u64 ((Wd.lo 1#128).toNat)]) (us := [.int .u64 ((Wd.hi ((Pc.step ⟨0#128, 1#128⟩).s)).toNat), .int .u64 ((Wd.lo ((Pc.step ⟨0#128, 1#128⟩).s)).toNat), .int .u64 ((Wd.hi 1#128).toNat), .int .u64 ((Wd.lo 1#128).toNat)]) sz_57 F H rfl rfl rfl rfl rfl rfl rfl (Nat.le_of_ble_eq_true rfl) rfl) (Sx.wanted_none rfl _) rfl (fun A w F (H : Sx.Own w0 _ [(true, g2, [.int .u64 ((Wd.hi ((Pc.step ⟨0#128, 1#128⟩).s)).toNat), .int .u64 ((Wd.lo ((Pc.step ⟨0#128, 1#128⟩).s)).toNat), .int .u64 ((Wd.hi 1#128).toNat), .int .u64 ((Wd.lo 1#128).toNat)]), (true, g1, [.int .u64 ((Wd.hi 0#128).toNat), .int .u64 ((Wd.lo 0#128).toNat), .int .u64 ((Wd.hi 1#128).toNat), .int .u64 ((Wd.lo 1#128).toNat)])] []) => ?_)
  refine Sx.nil ?_
  refine hK3 _ _ ?_
  refine Sx.seq (fun K4 hK4 => ?_)
  refine Sx.plain ?_
  refine Sx.sv F (Sx.d_load (i := 1) (xs := [.int .u64 ((Wd.hi 0#128).toNat), .int .u64 ((Wd.lo 0#128).toNat), .int .u64 ((Wd.hi 1#128).toNat), .int .u64 ((Wd.lo 1#128).toNat)]) rw_57 F H rfl rfl rfl rfl rfl) (Sx.wanted_none rfl _) rfl (by decide) (fun A F => ?_)
  refine Sx.sr (mk := fun v => .tuple #[v, .agg #[.int .u64 ((Wd.hi (Pc.its 1#128 2 0#128)).toNat), .int .u64 ((Wd.lo (Pc.its 1#128 2 0#128)).toNat), .int .u64 ((Wd.hi 1#128).toNat), .int .u64 ((Wd.lo 1#128).toNat)], .int .i64 0]) F (Sx.d_callR (vs := [.agg #[.int .u64 ((Wd.hi 0#128).toNat), .int .u64 ((Wd.lo 0#128).toNat), .int .u64 ((Wd.hi 1#128).toNat), .int .u64 ((Wd.lo 1#128).toNat)], .int .i64 2]) (mk := fun v => .tuple #[v, .agg #[.int .u64 ((Wd.hi (Pc.its 1#128 2 0#128)).toNat), .int .u64 ((Wd.lo (Pc.its 1#128 2 0#128)).toNat), .int .u64 ((Wd.hi 1#128).toNat), .int .u64 ((Wd.lo 1#128).toNat)], .int .i64 0]) if_39 F H rfl rfl (pwords_ok 0#128 1#128 2 (by kernel_rfl) (by omega) _)) (Sx.wanted_none rfl _) rfl (by decide) (fun v1 A w F (H : Sx.Own w0 _ [(true, g2, [.int .u64 ((Wd.hi ((Pc.step ⟨0#128, 1#128⟩).s)).toNat), .int .u64 ((Wd.lo ((Pc.step ⟨0#128, 1#128⟩).s)).toNat), .int .u64 ((Wd.hi 1#128).toNat), .int .u64 ((Wd.lo 1#128).toNat)]), (true, g1, [.int .u64 ((Wd.hi 0#128).toNat), .int .u64 ((Wd.lo 0#128).toNat), .int .u64 ((Wd.hi 1#128).toNat), .int .u64 ((Wd.lo 1#128).toNat)])] [⟨true, v1, 22, 1, 2, (u64s (Pc.words 1#128 2 0#128))⟩]) => ?_)
  refine Sx.sv F (Sx.d_move F (Or.inl rfl) rfl) (Sx.wanted_none rfl _) rfl (by decide) (fun A F => ?_)
  refine Sx.sv F (Sx.d_extract (v := v1) F rfl rfl rfl) (Sx.wanted_none rfl _) rfl (by decide) (fun A F => ?_)
  refine Sx.sv F (Sx.d_extract (v := .agg #[.int .u64 ((Wd.hi (Pc.its 1#128 2 0#128)).toNat), .int .u64 ((Wd.lo (Pc.its 1#128 2 0#128)).toNat), .int .u64 ((Wd.hi 1#128).toNat), .int .u64 ((Wd.lo 1#128).toNat)]) F rfl rfl rfl) (Sx.wanted_none rfl _) rfl (by decide) (fun A F => ?_)
  refine Sx.sv F (Sx.d_extract (v := .int .i64 0) F rfl rfl rfl) (Sx.wanted_none rfl _) rfl (by decide) (fun A F => ?_)
  refine Sx.sb F (Sx.d_alloc H rfl [.int .u64 ((Wd.hi 0#128).toNat), .int .u64 ((Wd.lo 0#128).toNat), .int .u64 ((Wd.hi 0#128).toNat), .int .u64 ((Wd.lo 0#128).toNat)] zero_57) (Sx.wanted_none rfl _) rfl (by decide) (fun g3 A w F H => ?_)
  refine Sx.sv F (Sx.d_move F (Or.inr rfl) rfl) (Sx.wanted_none rfl _) rfl (by decide) (fun A F => ?_)
  refine Sx.ss F (Sx.d_store (i := 0) (xs := [.int .u64 ((Wd.hi (Pc.its 1#128 2 0#128)).toNat), .int .u64 ((Wd.lo (Pc.its 1#128 2 0#128)).toNat), .int .u64 ((Wd.hi 1#128).toNat), .int .u64 ((Wd.lo 1#128).toNat)]) (us := [.int .u64 ((Wd.hi (Pc.its 1#128 2 0#128)).toNat), .int .u64 ((Wd.lo (Pc.its 1#128 2 0#128)).toNat), .int .u64 ((Wd.hi 1#128).toNat), .int .u64 ((Wd.lo 1#128).toNat)]) sz_57 F H rfl rfl rfl rfl rfl rfl rfl (Nat.le_of_ble_eq_true rfl) rfl) (Sx.wanted_none rfl _) rfl (fun A w F (H : Sx.Own w0 _ [(true, g3, [.int .u64 ((Wd.hi (Pc.its 1#128 2 0#128)).toNat), .int .u64 ((Wd.lo (Pc.its 1#128 2 0#128)).toNat), .int .u64 ((Wd.hi 1#128).toNat), .int .u64 ((Wd.lo 1#128).toNat)]), (true, g2, [.int .u64 ((Wd.hi ((Pc.step ⟨0#128, 1#128⟩).s)).toNat), .int .u64 ((Wd.lo ((Pc.step ⟨0#128, 1#128⟩).s)).toNat), .int .u64 ((Wd.hi 1#128).toNat), .int .u64 ((Wd.lo 1#128).toNat)]), (true, g1, [.int .u64 ((Wd.hi 0#128).toNat), .int .u64 ((Wd.lo 0#128).toNat), .int .u64 ((Wd.hi 1#128).toNat), .int .u64 ((Wd.lo 1#128).toNat)])] [⟨true, v1, 22, 1, 2, (u64s (Pc.words 1#128 2 0#128))⟩]) => ?_)
  refine Sx.sv F (Sx.d_move F (Or.inr rfl) rfl) (Sx.wanted_none rfl _) rfl (by decide) (fun A F => ?_)
  refine Sx.nil ?_
  refine hK4 _ _ ?_
  refine Sx.seq (fun K5 hK5 => ?_)
  refine Sx.plain ?_
  refine Sx.sv F (Sx.d_build (qs := #[]) (v := .agg #[.int .u64 ((Wd.hi 0#128).toNat), .int .u64 ((Wd.lo 0#128).toNat), .int .u64 ((Wd.hi 0#128).toNat), .int .u64 ((Wd.lo 0#128).toNat)]) F rfl rfl (by kernel_rfl)) (Sx.wanted_none rfl _) rfl (by decide) (fun A F => ?_)
  refine Sx.sw F (Sx.d_call (vs := [.agg #[.int .u64 ((Wd.hi 0#128).toNat), .int .u64 ((Wd.lo 0#128).toNat), .int .u64 ((Wd.hi 0#128).toNat), .int .u64 ((Wd.lo 0#128).toNat)], .int .i64 999]) (v := .tuple #[.slice none 0 0, .agg #[.int .u64 ((Wd.hi 0#128).toNat), .int .u64 ((Wd.lo 0#128).toNat), .int .u64 ((Wd.hi 0#128).toNat), .int .u64 ((Wd.lo 0#128).toNat)], .int .i64 3]) if_39 F H rfl rfl (pwords_no 0#128 0#128 999 (by kernel_rfl) _)) (Sx.wanted_none rfl _) rfl (by decide) (fun A w F H => ?_)
  refine Sx.sv F (Sx.d_move F (Or.inl rfl) rfl) (Sx.wanted_none rfl _) rfl (by decide) (fun A F => ?_)
  refine Sx.sv F (Sx.d_extract (v := .slice none 0 0) F rfl rfl rfl) (Sx.wanted_none rfl _) rfl (by decide) (fun A F => ?_)
  refine Sx.sv F (Sx.d_extract (v := .agg #[.int .u64 ((Wd.hi 0#128).toNat), .int .u64 ((Wd.lo 0#128).toNat), .int .u64 ((Wd.hi 0#128).toNat), .int .u64 ((Wd.lo 0#128).toNat)]) F rfl rfl rfl) (Sx.wanted_none rfl _) rfl (by decide) (fun A F => ?_)
  refine Sx.sv F (Sx.d_extract (v := .int .i64 3) F rfl rfl rfl) (Sx.wanted_none rfl _) rfl (by decide) (fun A F => ?_)
  refine Sx.sb F (Sx.d_alloc H rfl [.int .u64 ((Wd.hi 0#128).toNat), .int .u64 ((Wd.lo 0#128).toNat), .int .u64 ((Wd.hi 0#128).toNat), .int .u64 ((Wd.lo 0#128).toNat)] zero_57) (Sx.wanted_none rfl _) rfl (by decide) (fun g4 A w F H => ?_)
  refine Sx.sv F (Sx.d_move F (Or.inr rfl) rfl) (Sx.wanted_none rfl _) rfl (by decide) (fun A F => ?_)
  refine Sx.ss F (Sx.d_store (i := 0) (xs := [.int .u64 ((Wd.hi 0#128).toNat), .int .u64 ((Wd.lo 0#128).toNat), .int .u64 ((Wd.hi 0#128).toNat), .int .u64 ((Wd.lo 0#128).toNat)]) (us := [.int .u64 ((Wd.hi 0#128).toNat), .int .u64 ((Wd.lo 0#128).toNat), .int .u64 ((Wd.hi 0#128).toNat), .int .u64 ((Wd.lo 0#128).toNat)]) sz_57 F H rfl rfl rfl rfl rfl rfl rfl (Nat.le_of_ble_eq_true rfl) rfl) (Sx.wanted_none rfl _) rfl (fun A w F (H : Sx.Own w0 _ [(true, g4, [.int .u64 ((Wd.hi 0#128).toNat), .int .u64 ((Wd.lo 0#128).toNat), .int .u64 ((Wd.hi 0#128).toNat), .int .u64 ((Wd.lo 0#128).toNat)]), (true, g3, [.int .u64 ((Wd.hi (Pc.its 1#128 2 0#128)).toNat), .int .u64 ((Wd.lo (Pc.its 1#128 2 0#128)).toNat), .int .u64 ((Wd.hi 1#128).toNat), .int .u64 ((Wd.lo 1#128).toNat)]), (true, g2, [.int .u64 ((Wd.hi ((Pc.step ⟨0#128, 1#128⟩).s)).toNat), .int .u64 ((Wd.lo ((Pc.step ⟨0#128, 1#128⟩).s)).toNat), .int .u64 ((Wd.hi 1#128).toNat), .int .u64 ((Wd.lo 1#128).toNat)]), (true, g1, [.int .u64 ((Wd.hi 0#128).toNat), .int .u64 ((Wd.lo 0#128).toNat), .int .u64 ((Wd.hi 1#128).toNat), .int .u64 ((Wd.lo 1#128).toNat)])] [⟨true, v1, 22, 1, 2, (u64s (Pc.words 1#128 2 0#128))⟩]) => ?_)
  refine Sx.sv F (Sx.d_move F (Or.inr rfl) rfl) (Sx.wanted_none rfl _) rfl (by decide) (fun A F => ?_)
  refine Sx.nil ?_
  refine hK5 _ _ ?_
  refine Sx.seq (fun K6 hK6 => ?_)
  refine Sx.plain ?_
  refine Sx.sv F (Sx.d_load (i := 3) (xs := [.int .u64 ((Wd.hi 0#128).toNat), .int .u64 ((Wd.lo 0#128).toNat), .int .u64 ((Wd.hi 1#128).toNat), .int .u64 ((Wd.lo 1#128).toNat)]) rw_57 F H rfl rfl rfl rfl rfl) (Sx.wanted_none rfl _) rfl (by decide) (fun A F => ?_)
  refine Sx.sw F (Sx.d_call (vs := [.agg #[.int .u64 ((Wd.hi 0#128).toNat), .int .u64 ((Wd.lo 0#128).toNat), .int .u64 ((Wd.hi 1#128).toNat), .int .u64 ((Wd.lo 1#128).toNat)], .int .i64 257]) (v := .tuple #[.slice none 0 0, .agg #[.int .u64 ((Wd.hi 0#128).toNat), .int .u64 ((Wd.lo 0#128).toNat), .int .u64 ((Wd.hi 0#128).toNat), .int .u64 ((Wd.lo 0#128).toNat)], .int .i64 1]) if_39 F H rfl rfl (pwords_hi 0#128 1#128 257 (by kernel_rfl) (by omega) _)) (Sx.wanted_none rfl _) rfl (by decide) (fun A w F H => ?_)
  refine Sx.sv F (Sx.d_move F (Or.inl rfl) rfl) (Sx.wanted_none rfl _) rfl (by decide) (fun A F => ?_)
  refine Sx.sv F (Sx.d_extract (v := .slice none 0 0) F rfl rfl rfl) (Sx.wanted_none rfl _) rfl (by decide) (fun A F => ?_)
  refine Sx.sv F (Sx.d_extract (v := .agg #[.int .u64 ((Wd.hi 0#128).toNat), .int .u64 ((Wd.lo 0#128).toNat), .int .u64 ((Wd.hi 0#128).toNat), .int .u64 ((Wd.lo 0#128).toNat)]) F rfl rfl rfl) (Sx.wanted_none rfl _) rfl (by decide) (fun A F => ?_)
  refine Sx.sv F (Sx.d_extract (v := .int .i64 1) F rfl rfl rfl) (Sx.wanted_none rfl _) rfl (by decide) (fun A F => ?_)
  refine Sx.sb F (Sx.d_alloc H rfl [.int .u64 ((Wd.hi 0#128).toNat), .int .u64 ((Wd.lo 0#128).toNat), .int .u64 ((Wd.hi 0#128).toNat), .int .u64 ((Wd.lo 0#128).toNat)] zero_57) (Sx.wanted_none rfl _) rfl (by decide) (fun g5 A w F H => ?_)
  refine Sx.sv F (Sx.d_move F (Or.inr rfl) rfl) (Sx.wanted_none rfl _) rfl (by decide) (fun A F => ?_)
  refine Sx.ss F (Sx.d_store (i := 0) (xs := [.int .u64 ((Wd.hi 0#128).toNat), .int .u64 ((Wd.lo 0#128).toNat), .int .u64 ((Wd.hi 0#128).toNat), .int .u64 ((Wd.lo 0#128).toNat)]) (us := [.int .u64 ((Wd.hi 0#128).toNat), .int .u64 ((Wd.lo 0#128).toNat), .int .u64 ((Wd.hi 0#128).toNat), .int .u64 ((Wd.lo 0#128).toNat)]) sz_57 F H rfl rfl rfl rfl rfl rfl rfl (Nat.le_of_ble_eq_true rfl) rfl) (Sx.wanted_none rfl _) rfl (fun A w F (H : Sx.Own w0 _ [(true, g5, [.int .u64 ((Wd.hi 0#128).toNat), .int .u64 ((Wd.lo 0#128).toNat), .int .u64 ((Wd.hi 0#128).toNat), .int .u64 ((Wd.lo 0#128).toNat)]), (true, g4, [.int .u64 ((Wd.hi 0#128).toNat), .int .u64 ((Wd.lo 0#128).toNat), .int .u64 ((Wd.hi 0#128).toNat), .int .u64 ((Wd.lo 0#128).toNat)]), (true, g3, [.int .u64 ((Wd.hi (Pc.its 1#128 2 0#128)).toNat), .int .u64 ((Wd.lo (Pc.its 1#128 2 0#128)).toNat), .int .u64 ((Wd.hi 1#128).toNat), .int .u64 ((Wd.lo 1#128).toNat)]), (true, g2, [.int .u64 ((Wd.hi ((Pc.step ⟨0#128, 1#128⟩).s)).toNat), .int .u64 ((Wd.lo ((Pc.step ⟨0#128, 1#128⟩).s)).toNat), .int .u64 ((Wd.hi 1#128).toNat), .int .u64 ((Wd.lo 1#128).toNat)]), (true, g1, [.int .u64 ((Wd.hi 0#128).toNat), .int .u64 ((Wd.lo 0#128).toNat), .int .u64 ((Wd.hi 1#128).toNat), .int .u64 ((Wd.lo 1#128).toNat)])] [⟨true, v1, 22, 1, 2, (u64s (Pc.words 1#128 2 0#128))⟩]) => ?_)
  refine Sx.sv F (Sx.d_move F (Or.inr rfl) rfl) (Sx.wanted_none rfl _) rfl (by decide) (fun A F => ?_)
  refine Sx.nil ?_
  refine hK6 _ _ ?_
  refine Sx.seq (fun K7 hK7 => ?_)
  have F := Sx.Fr.to F (kv' := [(0, .bool false), (16, .agg #[.int .u64 ((Wd.hi 1#128).toNat), .int .u64 ((Wd.lo 1#128).toNat)]), (17, .agg #[.int .u64 ((Wd.hi 0#128).toNat), .int .u64 ((Wd.lo 0#128).toNat), .int .u64 ((Wd.hi 1#128).toNat), .int .u64 ((Wd.lo 1#128).toNat)]), (1, .pointer (some ⟨g1, 0, none⟩)), (18, .agg #[.int .u64 ((Wd.hi 0#128).toNat), .int .u64 ((Wd.lo 0#128).toNat), .int .u64 ((Wd.hi 1#128).toNat), .int .u64 ((Wd.lo 1#128).toNat)]), (19, .agg #[.int .u64 ((Wd.hi ((Pc.step ⟨0#128, 1#128⟩).s)).toNat), .int .u64 ((Wd.lo ((Pc.step ⟨0#128, 1#128⟩).s)).toNat), .int .u64 ((Wd.hi 1#128).toNat), .int .u64 ((Wd.lo 1#128).toNat)]), (2, .pointer (some ⟨g2, 0, none⟩)), (21, .agg #[.int .u64 ((Wd.hi 0#128).toNat), .int .u64 ((Wd.lo 0#128).toNat), .int .u64 ((Wd.hi 1#128).toNat), .int .u64 ((Wd.lo 1#128).toNat)]), (22, .tuple #[v1, .agg #[.int .u64 ((Wd.hi (Pc.its 1#128 2 0#128)).toNat), .int .u64 ((Wd.lo (Pc.its 1#128 2 0#128)).toNat), .int .u64 ((Wd.hi 1#128).toNat), .int .u64 ((Wd.lo 1#128).toNat)], .int .i64 0]), (20, .tuple #[v1, .agg #[.int .u64 ((Wd.hi (Pc.its 1#128 2 0#128)).toNat), .int .u64 ((Wd.lo (Pc.its 1#128 2 0#128)).toNat), .int .u64 ((Wd.hi 1#128).toNat), .int .u64 ((Wd.lo 1#128).toNat)], .int .i64 0]), (23, v1), (24, .agg #[.int .u64 ((Wd.hi (Pc.its 1#128 2 0#128)).toNat), .int .u64 ((Wd.lo (Pc.its 1#128 2 0#128)).toNat), .int .u64 ((Wd.hi 1#128).toNat), .int .u64 ((Wd.lo 1#128).toNat)]), (25, .int .i64 0), (4, .pointer (some ⟨g3, 0, none⟩)), (3, v1), (5, .int .i64 0), (27, .agg #[.int .u64 ((Wd.hi 0#128).toNat), .int .u64 ((Wd.lo 0#128).toNat), .int .u64 ((Wd.hi 0#128).toNat), .int .u64 ((Wd.lo 0#128).toNat)]), (28, .tuple #[.slice none 0 0, .agg #[.int .u64 ((Wd.hi 0#128).toNat), .int .u64 ((Wd.lo 0#128).toNat), .int .u64 ((Wd.hi 0#128).toNat), .int .u64 ((Wd.lo 0#128).toNat)], .int .i64 3]), (26, .tuple #[.slice none 0 0, .agg #[.int .u64 ((Wd.hi 0#128).toNat), .int .u64 ((Wd.lo 0#128).toNat), .int .u64 ((Wd.hi 0#128).toNat), .int .u64 ((Wd.lo 0#128).toNat)], .int .i64 3]), (29, .slice none 0 0), (30, .agg #[.int .u64 ((Wd.hi 0#128).toNat), .int .u64 ((Wd.lo 0#128).toNat), .int .u64 ((Wd.hi 0#128).toNat), .int .u64 ((Wd.lo 0#128).toNat)]), (31, .int .i64 3), (7, .pointer (some ⟨g4, 0, none⟩)), (6, .slice none 0 0), (8, .int .i64 3), (33, .agg #[.int .u64 ((Wd.hi 0#128).toNat), .int .u64 ((Wd.lo 0#128).toNat), .int .u64 ((Wd.hi 1#128).toNat), .int .u64 ((Wd.lo 1#128).toNat)]), (34, .tuple #[.slice none 0 0, .agg #[.int .u64 ((Wd.hi 0#128).toNat), .int .u64 ((Wd.lo 0#128).toNat), .int .u64 ((Wd.hi 0#128).toNat), .int .u64 ((Wd.lo 0#128).toNat)], .int .i64 1]), (32, .tuple #[.slice none 0 0, .agg #[.int .u64 ((Wd.hi 0#128).toNat), .int .u64 ((Wd.lo 0#128).toNat), .int .u64 ((Wd.hi 0#128).toNat), .int .u64 ((Wd.lo 0#128).toNat)], .int .i64 1]), (35, .slice none 0 0), (36, .agg #[.int .u64 ((Wd.hi 0#128).toNat), .int .u64 ((Wd.lo 0#128).toNat), .int .u64 ((Wd.hi 0#128).toNat), .int .u64 ((Wd.lo 0#128).toNat)]), (37, .int .i64 1), (10, .pointer (some ⟨g5, 0, none⟩)), (9, .slice none 0 0), (11, .int .i64 1)]) ⟨rfl, rfl, rfl, rfl, rfl, rfl, rfl, rfl, rfl, rfl, rfl, rfl, rfl, rfl, rfl, rfl, rfl, rfl, rfl, rfl, rfl, rfl, rfl, rfl, rfl, rfl, rfl, rfl, rfl, rfl, rfl, rfl, rfl, rfl, trivial⟩
  refine Sx.drawn F (by kernel_rfl) (by kernel_rfl) (by kernel_rfl) [some (.agg #[.int .u64 ((Wd.hi 0#128).toNat), .int .u64 ((Wd.lo 0#128).toNat), .int .u64 ((Wd.hi 1#128).toNat), .int .u64 ((Wd.lo 1#128).toNat)]), some (.agg #[.int .u64 ((Wd.hi 2#128).toNat), .int .u64 ((Wd.lo 2#128).toNat)]), some (.tuple #[.agg #[.int .u64 ((Wd.hi ((Pc.jump ⟨0#128, 1#128⟩ 2#128).s)).toNat), .int .u64 ((Wd.lo ((Pc.jump ⟨0#128, 1#128⟩ 2#128).s)).toNat), .int .u64 ((Wd.hi 1#128).toNat), .int .u64 ((Wd.lo 1#128).toNat)], .int .i64 0]), some (.tuple #[.agg #[.int .u64 ((Wd.hi ((Pc.jump ⟨0#128, 1#128⟩ 2#128).s)).toNat), .int .u64 ((Wd.lo ((Pc.jump ⟨0#128, 1#128⟩ 2#128).s)).toNat), .int .u64 ((Wd.hi 1#128).toNat), .int .u64 ((Wd.lo 1#128).toNat)], .int .i64 0]), some (.agg #[.int .u64 ((Wd.hi ((Pc.jump ⟨0#128, 1#128⟩ 2#128).s)).toNat), .int .u64 ((Wd.lo ((Pc.jump ⟨0#128, 1#128⟩ 2#128).s)).toNat), .int .u64 ((Wd.hi 1#128).toNat), .int .u64 ((Wd.lo 1#128).toNat)]), some (.int .i64 0), none, none, some (.int .i64 0)] (fun L A w => ∃ g6 : Nat, (L 6 = true → A.eval (.tmp 12) = .pointer (some ⟨g6, 0, none⟩)) ∧ Sx.Own w0 w [(true, g5, [.int .u64 ((Wd.hi 0#128).toNat), .int .u64 ((Wd.lo 0#128).toNat), .int .u64 ((Wd.hi 0#128).toNat), .int .u64 ((Wd.lo 0#128).toNat)]), (true, g4, [.int .u64 ((Wd.hi 0#128).toNat), .int .u64 ((Wd.lo 0#128).toNat), .int .u64 ((Wd.hi 0#128).toNat), .int .u64 ((Wd.lo 0#128).toNat)]), (true, g3, [.int .u64 ((Wd.hi (Pc.its 1#128 2 0#128)).toNat), .int .u64 ((Wd.lo (Pc.its 1#128 2 0#128)).toNat), .int .u64 ((Wd.hi 1#128).toNat), .int .u64 ((Wd.lo 1#128).toNat)]), (true, g2, [.int .u64 ((Wd.hi ((Pc.step ⟨0#128, 1#128⟩).s)).toNat), .int .u64 ((Wd.lo ((Pc.step ⟨0#128, 1#128⟩).s)).toNat), .int .u64 ((Wd.hi 1#128).toNat), .int .u64 ((Wd.lo 1#128).toNat)]), (true, g1, [.int .u64 ((Wd.hi 0#128).toNat), .int .u64 ((Wd.lo 0#128).toNat), .int .u64 ((Wd.hi 1#128).toNat), .int .u64 ((Wd.lo 1#128).toNat)]), (L 6, g6, (cond (L 7) [.int .u64 ((Wd.hi ((Pc.jump ⟨0#128, 1#128⟩ 2#128).s)).toNat), .int .u64 ((Wd.lo ((Pc.jump ⟨0#128, 1#128⟩ 2#128).s)).toNat), .int .u64 ((Wd.hi 1#128).toNat), .int .u64 ((Wd.lo 1#128).toNat)] [.int .u64 ((Wd.hi 0#128).toNat), .int .u64 ((Wd.lo 0#128).toNat), .int .u64 ((Wd.hi 0#128).toNat), .int .u64 ((Wd.lo 0#128).toNat)]))] [⟨true, v1, 22, 1, 2, (u64s (Pc.words 1#128 2 0#128))⟩]) ⟨0, (fun h => by cases h), H.drew.pad [(false, 0, [.int .u64 ((Wd.hi 0#128).toNat), .int .u64 ((Wd.lo 0#128).toNat), .int .u64 ((Wd.hi 0#128).toNat), .int .u64 ((Wd.lo 0#128).toNat)])] rfl [] rfl⟩ ?_ ?_
  · refine ⟨?_, ?_, ?_, ?_, ?_, ?_, ?_, ?_, ?_, trivial⟩
    · show Sx.StepAt _ _ _ _ _ _ _ 0
      intro L A w up hun hd F ⟨g6, p6, H⟩
      have f7 : L 7 = false := up 7 0 rfl hun
      rw [f7] at H
      have F := Sx.Fr.to F (kv' := [(1, .pointer (some ⟨g1, 0, none⟩))]) ⟨rfl, trivial⟩
      refine Sx.step_on rfl (Sx.d_load (i := 4) (xs := [.int .u64 ((Wd.hi 0#128).toNat), .int .u64 ((Wd.lo 0#128).toNat), .int .u64 ((Wd.hi 1#128).toNat), .int .u64 ((Wd.lo 1#128).toNat)]) rw_57 F H rfl rfl rfl rfl rfl) ?_
      rintro xv w' ⟨hx, rfl⟩
      exact ⟨(fun cv hc => hx.trans (Option.some.inj (Option.some.inj hc))), ⟨g6, (fun h => (Sx.put_ne rfl _).trans (p6 h)), (by show Sx.Own _ _ _ _; rw [show Inv.add L 0 7 = false from f7]; exact H)⟩⟩
    · show Sx.StepAt _ _ _ _ _ _ _ 1
      intro L A w up hun hd F ⟨g6, p6, H⟩
      have f7 : L 7 = false := up 7 1 rfl hun
      rw [f7] at H
      have F := Sx.Fr.to F (kv' := []) trivial
      refine Sx.step_on rfl (Sx.d_call (vs := [.int .u64 2]) (v := .agg #[.int .u64 ((Wd.hi 2#128).toNat), .int .u64 ((Wd.lo 2#128).toNat)]) if_29 F H rfl rfl (Calls.val (wofV_c 2#64 _) (by kernel_rfl) (by kernel_rfl))) ?_
      rintro xv w' ⟨hx, H⟩
      exact ⟨(fun cv hc => hx.trans (Option.some.inj (Option.some.inj hc))), ⟨g6, (fun h => (Sx.put_ne rfl _).trans (p6 h)), (by show Sx.Own _ _ _ _; rw [show Inv.add L 1 7 = false from f7]; exact H)⟩⟩
    · show Sx.StepAt _ _ _ _ _ _ _ 2
      intro L A w up hun hd F ⟨g6, p6, H⟩
      have f7 : L 7 = false := up 7 2 rfl hun
      rw [f7] at H
      have F := Sx.Fr.to F (kv' := [(39, .agg #[.int .u64 ((Wd.hi 0#128).toNat), .int .u64 ((Wd.lo 0#128).toNat), .int .u64 ((Wd.hi 1#128).toNat), .int .u64 ((Wd.lo 1#128).toNat)]), (40, .agg #[.int .u64 ((Wd.hi 2#128).toNat), .int .u64 ((Wd.lo 2#128).toNat)])]) ⟨rfl, rfl, trivial⟩
      refine Sx.step_on rfl (Sx.d_call (vs := [.agg #[.int .u64 ((Wd.hi 0#128).toNat), .int .u64 ((Wd.lo 0#128).toNat), .int .u64 ((Wd.hi 1#128).toNat), .int .u64 ((Wd.lo 1#128).toNat)], .agg #[.int .u64 ((Wd.hi 2#128).toNat), .int .u64 ((Wd.lo 2#128).toNat)]]) (v := .tuple #[.agg #[.int .u64 ((Wd.hi ((Pc.jump ⟨0#128, 1#128⟩ 2#128).s)).toNat), .int .u64 ((Wd.lo ((Pc.jump ⟨0#128, 1#128⟩ 2#128).s)).toNat), .int .u64 ((Wd.hi 1#128).toNat), .int .u64 ((Wd.lo 1#128).toNat)], .int .i64 0]) if_40 F H rfl rfl (pjump_ok 0#128 1#128 2#128 (by kernel_rfl) _)) ?_
      rintro xv w' ⟨hx, H⟩
      exact ⟨(fun cv hc => hx.trans (Option.some.inj (Option.some.inj hc))), ⟨g6, (fun h => (Sx.put_ne rfl _).trans (p6 h)), (by show Sx.Own _ _ _ _; rw [show Inv.add L 2 7 = false from f7]; exact H)⟩⟩
    · show Sx.StepAt _ _ _ _ _ _ _ 3
      intro L A w up hun hd F ⟨g6, p6, H⟩
      have f7 : L 7 = false := up 7 3 rfl hun
      rw [f7] at H
      have F := Sx.Fr.to F (kv' := [(41, .tuple #[.agg #[.int .u64 ((Wd.hi ((Pc.jump ⟨0#128, 1#128⟩ 2#128).s)).toNat), .int .u64 ((Wd.lo ((Pc.jump ⟨0#128, 1#128⟩ 2#128).s)).toNat), .int .u64 ((Wd.hi 1#128).toNat), .int .u64 ((Wd.lo 1#128).toNat)], .int .i64 0])]) ⟨rfl, trivial⟩
      refine Sx.step_on rfl (Sx.d_move F (Or.inl rfl) rfl) ?_
      rintro xv w' ⟨hx, rfl⟩
      exact ⟨(fun cv hc => hx.trans (Option.some.inj (Option.some.inj hc))), ⟨g6, (fun h => (Sx.put_ne rfl _).trans (p6 h)), (by show Sx.Own _ _ _ _; rw [show Inv.add L 3 7 = false from f7]; exact H)⟩⟩
    · show Sx.StepAt _ _ _ _ _ _ _ 4
      intro L A w up hun hd F ⟨g6, p6, H⟩
      have f7 : L 7 = false := up 7 4 rfl hun
      rw [f7] at H
      have F := Sx.Fr.to F (kv' := [(38, .tuple #[.agg #[.int .u64 ((Wd.hi ((Pc.jump ⟨0#128, 1#128⟩ 2#128).s)).toNat), .int .u64 ((Wd.lo ((Pc.jump ⟨0#128, 1#128⟩ 2#128).s)).toNat), .int .u64 ((Wd.hi 1#128).toNat), .int .u64 ((Wd.lo 1#128).toNat)], .int .i64 0])]) ⟨rfl, trivial⟩
      refine Sx.step_on rfl (Sx.d_extract (v := .agg #[.int .u64 ((Wd.hi ((Pc.jump ⟨0#128, 1#128⟩ 2#128).s)).toNat), .int .u64 ((Wd.lo ((Pc.jump ⟨0#128, 1#128⟩ 2#128).s)).toNat), .int .u64 ((Wd.hi 1#128).toNat), .int .u64 ((Wd.lo 1#128).toNat)]) F rfl rfl rfl) ?_
      rintro xv w' ⟨hx, rfl⟩
      exact ⟨(fun cv hc => hx.trans (Option.some.inj (Option.some.inj hc))), ⟨g6, (fun h => (Sx.put_ne rfl _).trans (p6 h)), (by show Sx.Own _ _ _ _; rw [show Inv.add L 4 7 = false from f7]; exact H)⟩⟩
    · show Sx.StepAt _ _ _ _ _ _ _ 5
      intro L A w up hun hd F ⟨g6, p6, H⟩
      have F := Sx.Fr.to F (kv' := [(38, .tuple #[.agg #[.int .u64 ((Wd.hi ((Pc.jump ⟨0#128, 1#128⟩ 2#128).s)).toNat), .int .u64 ((Wd.lo ((Pc.jump ⟨0#128, 1#128⟩ 2#128).s)).toNat), .int .u64 ((Wd.hi 1#128).toNat), .int .u64 ((Wd.lo 1#128).toNat)], .int .i64 0])]) ⟨rfl, trivial⟩
      refine Sx.step_on rfl (Sx.d_extract (v := .int .i64 0) F rfl rfl rfl) ?_
      rintro xv w' ⟨hx, rfl⟩
      exact ⟨(fun cv hc => hx.trans (Option.some.inj (Option.some.inj hc))), ⟨g6, (fun h => (Sx.put_ne rfl _).trans (p6 h)), H⟩⟩
    · show Sx.StepAt _ _ _ _ _ _ _ 6
      intro L A w up hun hd F ⟨g6, p6, H⟩
      have f6 : L 6 = false := hun
      have f7 : L 7 = false := up 7 6 rfl hun
      rw [f6, f7] at H
      have F := Sx.Fr.to F (kv' := []) trivial
      refine Sx.step_on rfl (Sx.d_alloc_at H rfl 5 [.int .u64 ((Wd.hi 0#128).toNat), .int .u64 ((Wd.lo 0#128).toNat), .int .u64 ((Wd.hi 0#128).toNat), .int .u64 ((Wd.lo 0#128).toNat)] zero_57) ?_
      rintro xv w' ⟨g', hx, H⟩
      exact ⟨(fun cv hc => by have h := Option.some.inj hc; cases h), ⟨g', (fun _ => (Sx.put_same F (by decide) _).trans hx), (by show Sx.Own _ _ _ _; rw [show Inv.add L 6 7 = false from f7]; exact H)⟩⟩
    · show Sx.StepAt _ _ _ _ _ _ _ 7
      intro L A w up hun hd F ⟨g6, p6, H⟩
      have t6 : L 6 = true := hd 6 rfl
      have f7 : L 7 = false := hun
      rw [t6, f7] at H
      have F := Sx.Fr.to F (kv' := [(42, .agg #[.int .u64 ((Wd.hi ((Pc.jump ⟨0#128, 1#128⟩ 2#128).s)).toNat), .int .u64 ((Wd.lo ((Pc.jump ⟨0#128, 1#128⟩ 2#128).s)).toNat), .int .u64 ((Wd.hi 1#128).toNat), .int .u64 ((Wd.lo 1#128).toNat)])]) ⟨rfl, trivial⟩
      have F := Sx.Fr.add F (p6 t6)
      refine Sx.step_on rfl (Sx.d_store (i := 5) (xs := [.int .u64 ((Wd.hi ((Pc.jump ⟨0#128, 1#128⟩ 2#128).s)).toNat), .int .u64 ((Wd.lo ((Pc.jump ⟨0#128, 1#128⟩ 2#128).s)).toNat), .int .u64 ((Wd.hi 1#128).toNat), .int .u64 ((Wd.lo 1#128).toNat)]) (us := [.int .u64 ((Wd.hi ((Pc.jump ⟨0#128, 1#128⟩ 2#128).s)).toNat), .int .u64 ((Wd.lo ((Pc.jump ⟨0#128, 1#128⟩ 2#128).s)).toNat), .int .u64 ((Wd.hi 1#128).toNat), .int .u64 ((Wd.lo 1#128).toNat)]) sz_57 F H rfl rfl rfl rfl rfl rfl rfl (Nat.le_of_ble_eq_true rfl) rfl) ?_
      intro xv w' H
      exact ⟨(fun cv hc => by have h := Option.some.inj hc; cases h), ⟨g6, p6, (by show Sx.Own _ _ _ _; rw [show Inv.add L 7 6 = true from t6]; exact H)⟩⟩
    · show Sx.StepAt _ _ _ _ _ _ _ 8
      intro L A w up hun hd F ⟨g6, p6, H⟩
      have t6 : L 6 = true := hd 6 rfl
      have t7 : L 7 = true := hd 7 rfl
      rw [t6, t7] at H
      have F := Sx.Fr.to F (kv' := [(43, .int .i64 0)]) ⟨rfl, trivial⟩
      have F := Sx.Fr.add F (p6 t6)
      refine Sx.step_on rfl (Sx.d_move F (Or.inr rfl) rfl) ?_
      rintro xv w' ⟨hx, rfl⟩
      exact ⟨(fun cv hc => hx.trans (Option.some.inj (Option.some.inj hc))), ⟨g6, (fun h => (Sx.put_ne rfl _).trans (p6 h)), (by show Sx.Own _ _ _ _; rw [show Inv.add L 8 6 = true from t6, show Inv.add L 8 7 = true from t7]; exact H)⟩⟩
  · intro L A w hL F ⟨g6, p6, H⟩
    have t6 : L 6 = true := hL 6 rfl
    have t7 : L 7 = true := hL 7 rfl
    rw [t6, t7] at H
    have F := Sx.Fr.add F (p6 t6)
    have F := Sx.Fr.to F (kv' := [(0, .bool false), (16, .agg #[.int .u64 ((Wd.hi 1#128).toNat), .int .u64 ((Wd.lo 1#128).toNat)]), (17, .agg #[.int .u64 ((Wd.hi 0#128).toNat), .int .u64 ((Wd.lo 0#128).toNat), .int .u64 ((Wd.hi 1#128).toNat), .int .u64 ((Wd.lo 1#128).toNat)]), (1, .pointer (some ⟨g1, 0, none⟩)), (18, .agg #[.int .u64 ((Wd.hi 0#128).toNat), .int .u64 ((Wd.lo 0#128).toNat), .int .u64 ((Wd.hi 1#128).toNat), .int .u64 ((Wd.lo 1#128).toNat)]), (19, .agg #[.int .u64 ((Wd.hi ((Pc.step ⟨0#128, 1#128⟩).s)).toNat), .int .u64 ((Wd.lo ((Pc.step ⟨0#128, 1#128⟩).s)).toNat), .int .u64 ((Wd.hi 1#128).toNat), .int .u64 ((Wd.lo 1#128).toNat)]), (2, .pointer (some ⟨g2, 0, none⟩)), (21, .agg #[.int .u64 ((Wd.hi 0#128).toNat), .int .u64 ((Wd.lo 0#128).toNat), .int .u64 ((Wd.hi 1#128).toNat), .int .u64 ((Wd.lo 1#128).toNat)]), (22, .tuple #[v1, .agg #[.int .u64 ((Wd.hi (Pc.its 1#128 2 0#128)).toNat), .int .u64 ((Wd.lo (Pc.its 1#128 2 0#128)).toNat), .int .u64 ((Wd.hi 1#128).toNat), .int .u64 ((Wd.lo 1#128).toNat)], .int .i64 0]), (20, .tuple #[v1, .agg #[.int .u64 ((Wd.hi (Pc.its 1#128 2 0#128)).toNat), .int .u64 ((Wd.lo (Pc.its 1#128 2 0#128)).toNat), .int .u64 ((Wd.hi 1#128).toNat), .int .u64 ((Wd.lo 1#128).toNat)], .int .i64 0]), (23, v1), (24, .agg #[.int .u64 ((Wd.hi (Pc.its 1#128 2 0#128)).toNat), .int .u64 ((Wd.lo (Pc.its 1#128 2 0#128)).toNat), .int .u64 ((Wd.hi 1#128).toNat), .int .u64 ((Wd.lo 1#128).toNat)]), (25, .int .i64 0), (4, .pointer (some ⟨g3, 0, none⟩)), (3, v1), (5, .int .i64 0), (27, .agg #[.int .u64 ((Wd.hi 0#128).toNat), .int .u64 ((Wd.lo 0#128).toNat), .int .u64 ((Wd.hi 0#128).toNat), .int .u64 ((Wd.lo 0#128).toNat)]), (28, .tuple #[.slice none 0 0, .agg #[.int .u64 ((Wd.hi 0#128).toNat), .int .u64 ((Wd.lo 0#128).toNat), .int .u64 ((Wd.hi 0#128).toNat), .int .u64 ((Wd.lo 0#128).toNat)], .int .i64 3]), (26, .tuple #[.slice none 0 0, .agg #[.int .u64 ((Wd.hi 0#128).toNat), .int .u64 ((Wd.lo 0#128).toNat), .int .u64 ((Wd.hi 0#128).toNat), .int .u64 ((Wd.lo 0#128).toNat)], .int .i64 3]), (29, .slice none 0 0), (30, .agg #[.int .u64 ((Wd.hi 0#128).toNat), .int .u64 ((Wd.lo 0#128).toNat), .int .u64 ((Wd.hi 0#128).toNat), .int .u64 ((Wd.lo 0#128).toNat)]), (31, .int .i64 3), (7, .pointer (some ⟨g4, 0, none⟩)), (8, .int .i64 3), (33, .agg #[.int .u64 ((Wd.hi 0#128).toNat), .int .u64 ((Wd.lo 0#128).toNat), .int .u64 ((Wd.hi 1#128).toNat), .int .u64 ((Wd.lo 1#128).toNat)]), (34, .tuple #[.slice none 0 0, .agg #[.int .u64 ((Wd.hi 0#128).toNat), .int .u64 ((Wd.lo 0#128).toNat), .int .u64 ((Wd.hi 0#128).toNat), .int .u64 ((Wd.lo 0#128).toNat)], .int .i64 1]), (32, .tuple #[.slice none 0 0, .agg #[.int .u64 ((Wd.hi 0#128).toNat), .int .u64 ((Wd.lo 0#128).toNat), .int .u64 ((Wd.hi 0#128).toNat), .int .u64 ((Wd.lo 0#128).toNat)], .int .i64 1]), (35, .slice none 0 0), (36, .agg #[.int .u64 ((Wd.hi 0#128).toNat), .int .u64 ((Wd.lo 0#128).toNat), .int .u64 ((Wd.hi 0#128).toNat), .int .u64 ((Wd.lo 0#128).toNat)]), (37, .int .i64 1), (10, .pointer (some ⟨g5, 0, none⟩)), (11, .int .i64 1), (12, .pointer (some ⟨g6, 0, none⟩)), (13, .int .i64 0)]) ⟨rfl, rfl, rfl, rfl, rfl, rfl, rfl, rfl, rfl, rfl, rfl, rfl, rfl, rfl, rfl, rfl, rfl, rfl, rfl, rfl, rfl, rfl, rfl, rfl, rfl, rfl, rfl, rfl, rfl, rfl, rfl, rfl, rfl, rfl, trivial⟩
    refine hK7 _ _ ?_
    refine Sx.seq (fun K8 hK8 => ?_)
    refine Sx.plain ?_
    refine Sx.sw F (Sx.d_call (vs := [.int .u64 4]) (v := .agg #[.int .u64 ((Wd.hi 4#128).toNat), .int .u64 ((Wd.lo 4#128).toNat)]) if_29 F H rfl rfl (Calls.val (wofV_c 4#64 _) (by kernel_rfl) (by kernel_rfl))) (Sx.wanted_none rfl _) rfl (by decide) (fun A w F H => ?_)
    refine Sx.sv F (Sx.d_build (qs := #[(1, .agg #[.int .u64 ((Wd.hi 4#128).toNat), .int .u64 ((Wd.lo 4#128).toNat)])]) (v := .agg #[.int .u64 ((Wd.hi 0#128).toNat), .int .u64 ((Wd.lo 0#128).toNat), .int .u64 ((Wd.hi 4#128).toNat), .int .u64 ((Wd.lo 4#128).toNat)]) F rfl rfl (by kernel_rfl)) (Sx.wanted_none rfl _) rfl (by decide) (fun A F => ?_)
    refine Sx.sw F (Sx.d_call (vs := [.int .u64 2]) (v := .agg #[.int .u64 ((Wd.hi 2#128).toNat), .int .u64 ((Wd.lo 2#128).toNat)]) if_29 F H rfl rfl (Calls.val (wofV_c 2#64 _) (by kernel_rfl) (by kernel_rfl))) (Sx.wanted_none rfl _) rfl (by decide) (fun A w F H => ?_)
    refine Sx.sw F (Sx.d_call (vs := [.agg #[.int .u64 ((Wd.hi 0#128).toNat), .int .u64 ((Wd.lo 0#128).toNat), .int .u64 ((Wd.hi 4#128).toNat), .int .u64 ((Wd.lo 4#128).toNat)], .agg #[.int .u64 ((Wd.hi 2#128).toNat), .int .u64 ((Wd.lo 2#128).toNat)]]) (v := .tuple #[.agg #[.int .u64 ((Wd.hi 0#128).toNat), .int .u64 ((Wd.lo 0#128).toNat), .int .u64 ((Wd.hi 0#128).toNat), .int .u64 ((Wd.lo 0#128).toNat)], .int .i64 3]) if_40 F H rfl rfl (pjump_no 0#128 4#128 2#128 (by kernel_rfl) _)) (Sx.wanted_none rfl _) rfl (by decide) (fun A w F H => ?_)
    refine Sx.sv F (Sx.d_move F (Or.inl rfl) rfl) (Sx.wanted_none rfl _) rfl (by decide) (fun A F => ?_)
    refine Sx.sv F (Sx.d_extract (v := .agg #[.int .u64 ((Wd.hi 0#128).toNat), .int .u64 ((Wd.lo 0#128).toNat), .int .u64 ((Wd.hi 0#128).toNat), .int .u64 ((Wd.lo 0#128).toNat)]) F rfl rfl rfl) (Sx.wanted_none rfl _) rfl (by decide) (fun A F => ?_)
    refine Sx.sv F (Sx.d_extract (v := .int .i64 3) F rfl rfl rfl) (Sx.wanted_none rfl _) rfl (by decide) (fun A F => ?_)
    refine Sx.sb F (Sx.d_alloc H rfl [.int .u64 ((Wd.hi 0#128).toNat), .int .u64 ((Wd.lo 0#128).toNat), .int .u64 ((Wd.hi 0#128).toNat), .int .u64 ((Wd.lo 0#128).toNat)] zero_57) (Sx.wanted_none rfl _) rfl (by decide) (fun g7 A w F H => ?_)
    refine Sx.ss F (Sx.d_store (i := 0) (xs := [.int .u64 ((Wd.hi 0#128).toNat), .int .u64 ((Wd.lo 0#128).toNat), .int .u64 ((Wd.hi 0#128).toNat), .int .u64 ((Wd.lo 0#128).toNat)]) (us := [.int .u64 ((Wd.hi 0#128).toNat), .int .u64 ((Wd.lo 0#128).toNat), .int .u64 ((Wd.hi 0#128).toNat), .int .u64 ((Wd.lo 0#128).toNat)]) sz_57 F H rfl rfl rfl rfl rfl rfl rfl (Nat.le_of_ble_eq_true rfl) rfl) (Sx.wanted_none rfl _) rfl (fun A w F (H : Sx.Own w0 _ [(true, g7, [.int .u64 ((Wd.hi 0#128).toNat), .int .u64 ((Wd.lo 0#128).toNat), .int .u64 ((Wd.hi 0#128).toNat), .int .u64 ((Wd.lo 0#128).toNat)]), (true, g5, [.int .u64 ((Wd.hi 0#128).toNat), .int .u64 ((Wd.lo 0#128).toNat), .int .u64 ((Wd.hi 0#128).toNat), .int .u64 ((Wd.lo 0#128).toNat)]), (true, g4, [.int .u64 ((Wd.hi 0#128).toNat), .int .u64 ((Wd.lo 0#128).toNat), .int .u64 ((Wd.hi 0#128).toNat), .int .u64 ((Wd.lo 0#128).toNat)]), (true, g3, [.int .u64 ((Wd.hi (Pc.its 1#128 2 0#128)).toNat), .int .u64 ((Wd.lo (Pc.its 1#128 2 0#128)).toNat), .int .u64 ((Wd.hi 1#128).toNat), .int .u64 ((Wd.lo 1#128).toNat)]), (true, g2, [.int .u64 ((Wd.hi ((Pc.step ⟨0#128, 1#128⟩).s)).toNat), .int .u64 ((Wd.lo ((Pc.step ⟨0#128, 1#128⟩).s)).toNat), .int .u64 ((Wd.hi 1#128).toNat), .int .u64 ((Wd.lo 1#128).toNat)]), (true, g1, [.int .u64 ((Wd.hi 0#128).toNat), .int .u64 ((Wd.lo 0#128).toNat), .int .u64 ((Wd.hi 1#128).toNat), .int .u64 ((Wd.lo 1#128).toNat)]), (true, g6, [.int .u64 ((Wd.hi ((Pc.jump ⟨0#128, 1#128⟩ 2#128).s)).toNat), .int .u64 ((Wd.lo ((Pc.jump ⟨0#128, 1#128⟩ 2#128).s)).toNat), .int .u64 ((Wd.hi 1#128).toNat), .int .u64 ((Wd.lo 1#128).toNat)])] [⟨true, v1, 22, 1, 2, (u64s (Pc.words 1#128 2 0#128))⟩]) => ?_)
    refine Sx.sv F (Sx.d_move F (Or.inr rfl) rfl) (Sx.wanted_none rfl _) rfl (by decide) (fun A F => ?_)
    refine Sx.nil ?_
    refine hK8 _ _ ?_
    refine Sx.seq (fun K9 hK9 => ?_)
    have F := Sx.Fr.to F (kv' := [(16, .agg #[.int .u64 ((Wd.hi 1#128).toNat), .int .u64 ((Wd.lo 1#128).toNat)]), (17, .agg #[.int .u64 ((Wd.hi 0#128).toNat), .int .u64 ((Wd.lo 0#128).toNat), .int .u64 ((Wd.hi 1#128).toNat), .int .u64 ((Wd.lo 1#128).toNat)]), (1, .pointer (some ⟨g1, 0, none⟩)), (18, .agg #[.int .u64 ((Wd.hi 0#128).toNat), .int .u64 ((Wd.lo 0#128).toNat), .int .u64 ((Wd.hi 1#128).toNat), .int .u64 ((Wd.lo 1#128).toNat)]), (19, .agg #[.int .u64 ((Wd.hi ((Pc.step ⟨0#128, 1#128⟩).s)).toNat), .int .u64 ((Wd.lo ((Pc.step ⟨0#128, 1#128⟩).s)).toNat), .int .u64 ((Wd.hi 1#128).toNat), .int .u64 ((Wd.lo 1#128).toNat)]), (2, .pointer (some ⟨g2, 0, none⟩)), (21, .agg #[.int .u64 ((Wd.hi 0#128).toNat), .int .u64 ((Wd.lo 0#128).toNat), .int .u64 ((Wd.hi 1#128).toNat), .int .u64 ((Wd.lo 1#128).toNat)]), (22, .tuple #[v1, .agg #[.int .u64 ((Wd.hi (Pc.its 1#128 2 0#128)).toNat), .int .u64 ((Wd.lo (Pc.its 1#128 2 0#128)).toNat), .int .u64 ((Wd.hi 1#128).toNat), .int .u64 ((Wd.lo 1#128).toNat)], .int .i64 0]), (20, .tuple #[v1, .agg #[.int .u64 ((Wd.hi (Pc.its 1#128 2 0#128)).toNat), .int .u64 ((Wd.lo (Pc.its 1#128 2 0#128)).toNat), .int .u64 ((Wd.hi 1#128).toNat), .int .u64 ((Wd.lo 1#128).toNat)], .int .i64 0]), (23, v1), (24, .agg #[.int .u64 ((Wd.hi (Pc.its 1#128 2 0#128)).toNat), .int .u64 ((Wd.lo (Pc.its 1#128 2 0#128)).toNat), .int .u64 ((Wd.hi 1#128).toNat), .int .u64 ((Wd.lo 1#128).toNat)]), (25, .int .i64 0), (4, .pointer (some ⟨g3, 0, none⟩)), (3, v1), (5, .int .i64 0), (27, .agg #[.int .u64 ((Wd.hi 0#128).toNat), .int .u64 ((Wd.lo 0#128).toNat), .int .u64 ((Wd.hi 0#128).toNat), .int .u64 ((Wd.lo 0#128).toNat)]), (28, .tuple #[.slice none 0 0, .agg #[.int .u64 ((Wd.hi 0#128).toNat), .int .u64 ((Wd.lo 0#128).toNat), .int .u64 ((Wd.hi 0#128).toNat), .int .u64 ((Wd.lo 0#128).toNat)], .int .i64 3]), (26, .tuple #[.slice none 0 0, .agg #[.int .u64 ((Wd.hi 0#128).toNat), .int .u64 ((Wd.lo 0#128).toNat), .int .u64 ((Wd.hi 0#128).toNat), .int .u64 ((Wd.lo 0#128).toNat)], .int .i64 3]), (29, .slice none 0 0), (30, .agg #[.int .u64 ((Wd.hi 0#128).toNat), .int .u64 ((Wd.lo 0#128).toNat), .int .u64 ((Wd.hi 0#128).toNat), .int .u64 ((Wd.lo 0#128).toNat)]), (31, .int .i64 3), (7, .pointer (some ⟨g4, 0, none⟩)), (8, .int .i64 3), (33, .agg #[.int .u64 ((Wd.hi 0#128).toNat), .int .u64 ((Wd.lo 0#128).toNat), .int .u64 ((Wd.hi 1#128).toNat), .int .u64 ((Wd.lo 1#128).toNat)]), (34, .tuple #[.slice none 0 0, .agg #[.int .u64 ((Wd.hi 0#128).toNat), .int .u64 ((Wd.lo 0#128).toNat), .int .u64 ((Wd.hi 0#128).toNat), .int .u64 ((Wd.lo 0#128).toNat)], .int .i64 1]), (32, .tuple #[.slice none 0 0, .agg #[.int .u64 ((Wd.hi 0#128).toNat), .int .u64 ((Wd.lo 0#128).toNat), .int .u64 ((Wd.hi 0#128).toNat), .int .u64 ((Wd.lo 0#128).toNat)], .int .i64 1]), (35, .slice none 0 0), (36, .agg #[.int .u64 ((Wd.hi 0#128).toNat), .int .u64 ((Wd.lo 0#128).toNat), .int .u64 ((Wd.hi 0#128).toNat), .int .u64 ((Wd.lo 0#128).toNat)]), (37, .int .i64 1), (10, .pointer (some ⟨g5, 0, none⟩)), (11, .int .i64 1), (12, .pointer (some ⟨g6, 0, none⟩)), (13, .int .i64 0), (45, .agg #[.int .u64 ((Wd.hi 4#128).toNat), .int .u64 ((Wd.lo 4#128).toNat)]), (46, .agg #[.int .u64 ((Wd.hi 0#128).toNat), .int .u64 ((Wd.lo 0#128).toNat), .int .u64 ((Wd.hi 4#128).toNat), .int .u64 ((Wd.lo 4#128).toNat)]), (47, .agg #[.int .u64 ((Wd.hi 2#128).toNat), .int .u64 ((Wd.lo 2#128).toNat)]), (48, .tuple #[.agg #[.int .u64 ((Wd.hi 0#128).toNat), .int .u64 ((Wd.lo 0#128).toNat), .int .u64 ((Wd.hi 0#128).toNat), .int .u64 ((Wd.lo 0#128).toNat)], .int .i64 3]), (44, .tuple #[.agg #[.int .u64 ((Wd.hi 0#128).toNat), .int .u64 ((Wd.lo 0#128).toNat), .int .u64 ((Wd.hi 0#128).toNat), .int .u64 ((Wd.lo 0#128).toNat)], .int .i64 3]), (49, .agg #[.int .u64 ((Wd.hi 0#128).toNat), .int .u64 ((Wd.lo 0#128).toNat), .int .u64 ((Wd.hi 0#128).toNat), .int .u64 ((Wd.lo 0#128).toNat)]), (50, .int .i64 3), (14, .pointer (some ⟨g7, 0, none⟩)), (15, .int .i64 3)]) ⟨rfl, rfl, rfl, rfl, rfl, rfl, rfl, rfl, rfl, rfl, rfl, rfl, rfl, rfl, rfl, rfl, rfl, rfl, rfl, rfl, rfl, rfl, rfl, rfl, rfl, rfl, rfl, rfl, rfl, rfl, rfl, rfl, rfl, rfl, rfl, rfl, rfl, rfl, rfl, rfl, rfl, rfl, trivial⟩
    refine Sx.drawn F (by kernel_rfl) (by kernel_rfl) (by kernel_rfl) [some (.agg #[.int .u64 ((Wd.hi ((Pc.step ⟨0#128, 1#128⟩).s)).toNat), .int .u64 ((Wd.lo ((Pc.step ⟨0#128, 1#128⟩).s)).toNat), .int .u64 ((Wd.hi 1#128).toNat), .int .u64 ((Wd.lo 1#128).toNat)]), some (.agg #[.int .u64 ((Wd.hi 1#128).toNat), .int .u64 ((Wd.lo 1#128).toNat)]), some (.agg #[.int .u64 ((Wd.hi 1#128).toNat), .int .u64 ((Wd.lo 1#128).toNat)]), some (.agg #[.int .u64 ((Wd.hi 1#128).toNat), .int .u64 ((Wd.lo 1#128).toNat), .int .u64 ((Wd.hi 1#128).toNat), .int .u64 ((Wd.lo 1#128).toNat)]), some (.bool true), some (.bool true), some (v1), none, some (.bool true), some (.bool true), some (.bool true), some (.int .i64 0), some (.bool true), some (.bool true), some (.bool true), some (.agg #[.int .u64 ((Wd.hi (Pc.its 1#128 2 0#128)).toNat), .int .u64 ((Wd.lo (Pc.its 1#128 2 0#128)).toNat), .int .u64 ((Wd.hi 1#128).toNat), .int .u64 ((Wd.lo 1#128).toNat)]), some (.agg #[.int .u64 ((Wd.hi ((Pc.jump ⟨0#128, 1#128⟩ 2#128).s)).toNat), .int .u64 ((Wd.lo ((Pc.jump ⟨0#128, 1#128⟩ 2#128).s)).toNat), .int .u64 ((Wd.hi 1#128).toNat), .int .u64 ((Wd.lo 1#128).toNat)]), some (.bool true), some (.bool true), some (.bool true), some (.int .i64 3), some (.bool true), some (.bool true), some (.bool true), some (.int .i64 1), some (.bool true), some (.bool true), some (.bool true), some (.agg #[.int .u64 ((Wd.hi ((Pc.jump ⟨0#128, 1#128⟩ 2#128).s)).toNat), .int .u64 ((Wd.lo ((Pc.jump ⟨0#128, 1#128⟩ 2#128).s)).toNat), .int .u64 ((Wd.hi 1#128).toNat), .int .u64 ((Wd.lo 1#128).toNat)]), some (.agg #[.int .u64 ((Wd.hi 15750249268501108918#128).toNat), .int .u64 ((Wd.lo 15750249268501108918#128).toNat)]), some (.agg #[.int .u64 ((Wd.hi 1#128).toNat), .int .u64 ((Wd.lo 1#128).toNat)]), some (.agg #[.int .u64 ((Wd.hi 15750249268501108918#128).toNat), .int .u64 ((Wd.lo 15750249268501108918#128).toNat), .int .u64 ((Wd.hi 1#128).toNat), .int .u64 ((Wd.lo 1#128).toNat)]), some (.bool true), some (.bool true), some (.bool true), some (.int .i64 0), some (.bool true), some (.bool true), some (.bool true), some (.int .i64 3), some (.bool true), some (.bool true), some (.bool true), some (.agg #[.int .u64 ((Wd.hi ((Pc.step ⟨0#128, 1#128⟩).s)).toNat), .int .u64 ((Wd.lo ((Pc.step ⟨0#128, 1#128⟩).s)).toNat), .int .u64 ((Wd.hi 1#128).toNat), .int .u64 ((Wd.lo 1#128).toNat)]), some (.agg #[.int .u64 ((Wd.hi ((Pc.back ⟨((Pc.step ⟨0#128, 1#128⟩).s), 1#128⟩).s)).toNat), .int .u64 ((Wd.lo ((Pc.back ⟨((Pc.step ⟨0#128, 1#128⟩).s), 1#128⟩).s)).toNat), .int .u64 ((Wd.hi 1#128).toNat), .int .u64 ((Wd.lo 1#128).toNat)]), some (.agg #[.int .u64 ((Wd.hi 0#128).toNat), .int .u64 ((Wd.lo 0#128).toNat), .int .u64 ((Wd.hi 1#128).toNat), .int .u64 ((Wd.lo 1#128).toNat)]), some (.bool true), some (.bool true), some (.bool true), some (.agg #[.int .u64 ((Wd.hi 18446744073709551618#128).toNat), .int .u64 ((Wd.lo 18446744073709551618#128).toNat)]), some (.agg #[.int .u64 ((Wd.hi 18446744073709551618#128).toNat), .int .u64 ((Wd.lo 18446744073709551618#128).toNat), .int .u64 ((Wd.hi 0#128).toNat), .int .u64 ((Wd.lo 0#128).toNat)]), some (.int .u64 ((Pc.word 18446744073709551618#128).toNat)), some (.bool true), some (.bool true), some (.bool true), some (.agg #[.int .u64 ((Wd.hi 0#128).toNat), .int .u64 ((Wd.lo 0#128).toNat), .int .u64 ((Wd.hi 1#128).toNat), .int .u64 ((Wd.lo 1#128).toNat)]), some (.bool true), some (.bool true), some (.bool true), some (.agg #[.int .u64 ((Wd.hi 0#128).toNat), .int .u64 ((Wd.lo 0#128).toNat), .int .u64 ((Wd.hi 1#128).toNat), .int .u64 ((Wd.lo 1#128).toNat)]), some (.agg #[.int .u64 ((Wd.hi 15750249268501108917#128).toNat), .int .u64 ((Wd.lo 15750249268501108917#128).toNat), .int .u64 ((Wd.hi 1#128).toNat), .int .u64 ((Wd.lo 1#128).toNat)]), some (.agg #[.int .u64 ((Wd.hi 15750249268501108917#128).toNat), .int .u64 ((Wd.lo 15750249268501108917#128).toNat)]), some (.agg #[.int .u64 ((Wd.hi 1#128).toNat), .int .u64 ((Wd.lo 1#128).toNat)]), some (.agg #[.int .u64 ((Wd.hi 15750249268501108917#128).toNat), .int .u64 ((Wd.lo 15750249268501108917#128).toNat), .int .u64 ((Wd.hi 1#128).toNat), .int .u64 ((Wd.lo 1#128).toNat)]), some (.bool true), some (.bool true), some (.bool true)] (fun L A w => ∃ v2 : Value, (L 7 = true → A.eval (.tmp 58) = v2) ∧ Sx.Own w0 w [(true, g7, [.int .u64 ((Wd.hi 0#128).toNat), .int .u64 ((Wd.lo 0#128).toNat), .int .u64 ((Wd.hi 0#128).toNat), .int .u64 ((Wd.lo 0#128).toNat)]), (true, g5, [.int .u64 ((Wd.hi 0#128).toNat), .int .u64 ((Wd.lo 0#128).toNat), .int .u64 ((Wd.hi 0#128).toNat), .int .u64 ((Wd.lo 0#128).toNat)]), (true, g4, [.int .u64 ((Wd.hi 0#128).toNat), .int .u64 ((Wd.lo 0#128).toNat), .int .u64 ((Wd.hi 0#128).toNat), .int .u64 ((Wd.lo 0#128).toNat)]), (true, g3, [.int .u64 ((Wd.hi (Pc.its 1#128 2 0#128)).toNat), .int .u64 ((Wd.lo (Pc.its 1#128 2 0#128)).toNat), .int .u64 ((Wd.hi 1#128).toNat), .int .u64 ((Wd.lo 1#128).toNat)]), (true, g2, [.int .u64 ((Wd.hi ((Pc.step ⟨0#128, 1#128⟩).s)).toNat), .int .u64 ((Wd.lo ((Pc.step ⟨0#128, 1#128⟩).s)).toNat), .int .u64 ((Wd.hi 1#128).toNat), .int .u64 ((Wd.lo 1#128).toNat)]), (true, g1, [.int .u64 ((Wd.hi 0#128).toNat), .int .u64 ((Wd.lo 0#128).toNat), .int .u64 ((Wd.hi 1#128).toNat), .int .u64 ((Wd.lo 1#128).toNat)]), (true, g6, [.int .u64 ((Wd.hi ((Pc.jump ⟨0#128, 1#128⟩ 2#128).s)).toNat), .int .u64 ((Wd.lo ((Pc.jump ⟨0#128, 1#128⟩ 2#128).s)).toNat), .int .u64 ((Wd.hi 1#128).toNat), .int .u64 ((Wd.lo 1#128).toNat)])] [⟨true, v1, 22, 1, 2, (u64s (Pc.words 1#128 2 0#128))⟩, ⟨L 7, v2, 22, 1, 2, [.int .u64 0, .int .u64 0]⟩]) ⟨undef, (fun h => by cases h), H.drew.pad [] rfl [⟨false, undef, 22, 1, 2, [.int .u64 0, .int .u64 0]⟩] rfl⟩ ?_ ?_
    · refine ⟨?_, ?_, ?_, ?_, ?_, ?_, ?_, ?_, ?_, ?_, ?_, ?_, ?_, ?_, ?_, ?_, ?_, ?_, ?_, ?_, ?_, ?_, ?_, ?_, ?_, ?_, ?_, ?_, ?_, ?_, ?_, ?_, ?_, ?_, ?_, ?_, ?_, ?_, ?_, ?_, ?_, ?_, ?_, ?_, ?_, ?_, ?_, ?_, ?_, ?_, ?_, ?_, ?_, ?_, ?_, ?_, ?_, ?_, ?_, ?_, ?_, ?_, ?_, ?_, ?_, ?_, ?_, trivial⟩
      · show Sx.StepAt _ _ _ _ _ _ _ 0
        intro L A w up hun hd F ⟨v2, p7, H⟩
        have f4 : L 4 = false := up 4 0 rfl hun
        have f5 : L 5 = false := up 5 4 rfl f4
        have f7 : L 7 = false := up 7 5 rfl f5
        rw [f7] at H
        have F := Sx.Fr.to F (kv' := [(2, .pointer (some ⟨g2, 0, none⟩))]) ⟨rfl, trivial⟩
        refine Sx.step_on rfl (Sx.d_load (i := 4) (xs := [.int .u64 ((Wd.hi ((Pc.step ⟨0#128, 1#128⟩).s)).toNat), .int .u64 ((Wd.lo ((Pc.step ⟨0#128, 1#128⟩).s)).toNat), .int .u64 ((Wd.hi 1#128).toNat), .int .u64 ((Wd.lo 1#128).toNat)]) rw_57 F H rfl rfl rfl rfl rfl) ?_
        rintro xv w' ⟨hx, rfl⟩
        exact ⟨(fun cv hc => hx.trans (Option.some.inj (Option.some.inj hc))), ⟨v2, (fun h => absurd (show L 7 = true from h) (by rw [f7]; decide)), (by show Sx.Own _ _ _ _; rw [show Inv.add L 0 7 = false from f7]; exact H)⟩⟩
      · show Sx.StepAt _ _ _ _ _ _ _ 1
        intro L A w up hun hd F ⟨v2, p7, H⟩
        have f2 : L 2 = false := up 2 1 rfl hun
        have f5 : L 5 = false := up 5 2 rfl f2
        have f7 : L 7 = false := up 7 5 rfl f5
        rw [f7] at H
        have F := Sx.Fr.to F (kv' := []) trivial
        refine Sx.step_on rfl (Sx.d_call (vs := [.int .u64 1]) (v := .agg #[.int .u64 ((Wd.hi 1#128).toNat), .int .u64 ((Wd.lo 1#128).toNat)]) if_29 F H rfl rfl (Calls.val (wofV_c 1#64 _) (by kernel_rfl) (by kernel_rfl))) ?_
        rintro xv w' ⟨hx, H⟩
        exact ⟨(fun cv hc => hx.trans (Option.some.inj (Option.some.inj hc))), ⟨v2, (fun h => absurd (show L 7 = true from h) (by rw [f7]; decide)), (by show Sx.Own _ _ _ _; rw [show Inv.add L 1 7 = false from f7]; exact H)⟩⟩
      · show Sx.StepAt _ _ _ _ _ _ _ 2
        intro L A w up hun hd F ⟨v2, p7, H⟩
        have f5 : L 5 = false := up 5 2 rfl hun
        have f7 : L 7 = false := up 7 5 rfl f5
        rw [f7] at H
        have F := Sx.Fr.to F (kv' := []) trivial
        refine Sx.step_on rfl (Sx.d_call (vs := [.int .u64 1]) (v := .agg #[.int .u64 ((Wd.hi 1#128).toNat), .int .u64 ((Wd.lo 1#128).toNat)]) if_29 F H rfl rfl (Calls.val (wofV_c 1#64 _) (by kernel_rfl) (by kernel_rfl))) ?_
        rintro xv w' ⟨hx, H⟩
        exact ⟨(fun cv hc => hx.trans (Option.some.inj (Option.some.inj hc))), ⟨v2, (fun h => absurd (show L 7 = true from h) (by rw [f7]; decide)), (by show Sx.Own _ _ _ _; rw [show Inv.add L 2 7 = false from f7]; exact H)⟩⟩
      · show Sx.StepAt _ _ _ _ _ _ _ 3
        intro L A w up hun hd F ⟨v2, p7, H⟩
        have f4 : L 4 = false := up 4 3 rfl hun
        have f5 : L 5 = false := up 5 4 rfl f4
        have f7 : L 7 = false := up 7 5 rfl f5
        rw [f7] at H
        have F := Sx.Fr.to F (kv' := [(52, .agg #[.int .u64 ((Wd.hi 1#128).toNat), .int .u64 ((Wd.lo 1#128).toNat)]), (53, .agg #[.int .u64 ((Wd.hi 1#128).toNat), .int .u64 ((Wd.lo 1#128).toNat)])]) ⟨rfl, rfl, trivial⟩
        refine Sx.step_on rfl (Sx.d_build (qs := #[(0, .agg #[.int .u64 ((Wd.hi 1#128).toNat), .int .u64 ((Wd.lo 1#128).toNat)]), (1, .agg #[.int .u64 ((Wd.hi 1#128).toNat), .int .u64 ((Wd.lo 1#128).toNat)])]) (v := .agg #[.int .u64 ((Wd.hi 1#128).toNat), .int .u64 ((Wd.lo 1#128).toNat), .int .u64 ((Wd.hi 1#128).toNat), .int .u64 ((Wd.lo 1#128).toNat)]) F rfl rfl (by kernel_rfl)) ?_
        rintro xv w' ⟨hx, rfl⟩
        exact ⟨(fun cv hc => hx.trans (Option.some.inj (Option.some.inj hc))), ⟨v2, (fun h => absurd (show L 7 = true from h) (by rw [f7]; decide)), (by show Sx.Own _ _ _ _; rw [show Inv.add L 3 7 = false from f7]; exact H)⟩⟩
      · show Sx.StepAt _ _ _ _ _ _ _ 4
        intro L A w up hun hd F ⟨v2, p7, H⟩
        have f5 : L 5 = false := up 5 4 rfl hun
        have f7 : L 7 = false := up 7 5 rfl f5
        rw [f7] at H
        have F := Sx.Fr.to F (kv' := [(51, .agg #[.int .u64 ((Wd.hi ((Pc.step ⟨0#128, 1#128⟩).s)).toNat), .int .u64 ((Wd.lo ((Pc.step ⟨0#128, 1#128⟩).s)).toNat), .int .u64 ((Wd.hi 1#128).toNat), .int .u64 ((Wd.lo 1#128).toNat)]), (54, .agg #[.int .u64 ((Wd.hi 1#128).toNat), .int .u64 ((Wd.lo 1#128).toNat), .int .u64 ((Wd.hi 1#128).toNat), .int .u64 ((Wd.lo 1#128).toNat)])]) ⟨rfl, rfl, trivial⟩
        refine Sx.step_on rfl (Sx.d_bin (v := .bool true) F rfl rfl rfl (Sx.i_eqP (by kernel_rfl))) ?_
        rintro xv w' ⟨hx, rfl⟩
        exact ⟨(fun cv hc => hx.trans (Option.some.inj (Option.some.inj hc))), ⟨v2, (fun h => absurd (show L 7 = true from h) (by rw [f7]; decide)), (by show Sx.Own _ _ _ _; rw [show Inv.add L 4 7 = false from f7]; exact H)⟩⟩
      · show Sx.StepAt _ _ _ _ _ _ _ 5
        intro L A w up hun hd F ⟨v2, p7, H⟩
        have f7 : L 7 = false := up 7 5 rfl hun
        rw [f7] at H
        have F := Sx.Fr.to F (kv' := [(55, .bool true)]) ⟨rfl, trivial⟩
        refine Sx.step_on rfl (Sx.d_move F (Or.inl rfl) rfl) ?_
        rintro xv w' ⟨hx, rfl⟩
        exact ⟨(fun cv hc => hx.trans (Option.some.inj (Option.some.inj hc))), ⟨v2, (fun h => absurd (show L 7 = true from h) (by rw [f7]; decide)), (by show Sx.Own _ _ _ _; rw [show Inv.add L 5 7 = false from f7]; exact H)⟩⟩
      · show Sx.StepAt _ _ _ _ _ _ _ 6
        intro L A w up hun hd F ⟨v2, p7, H⟩
        have F := Sx.Fr.to F (kv' := [(3, v1), (56, .bool true)]) ⟨rfl, rfl, trivial⟩
        refine Sx.step_ong rfl (Sx.guard_known (d := 56) (b := true) F rfl rfl) rfl (Sx.d_move F (Or.inl rfl) rfl) ?_
        rintro xv w' ⟨hx, rfl⟩
        exact ⟨(fun cv hc => hx.trans (Option.some.inj (Option.some.inj hc))), ⟨v2, (fun h => (Sx.put_ne rfl _).trans (p7 h)), H⟩⟩
      · show Sx.StepAt _ _ _ _ _ _ _ 7
        intro L A w up hun hd F ⟨v2, p7, H⟩
        have f7 : L 7 = false := hun
        rw [f7] at H
        have F := Sx.Fr.to F (kv' := [(56, .bool true)]) ⟨rfl, trivial⟩
        refine Sx.step_ong rfl (Sx.guard_known (d := 56) (b := true) F rfl rfl) rfl (Sx.d_litR_at 1 (qs := #[(0, .int .u64 0), (1, .int .u64 0)]) (cs := #[.int .u64 0, .int .u64 0]) (E := 22) (z := 1) F H rfl rfl (fun _ => by kernel_rfl) rfl (by decide)) ?_
        rintro xv w' ⟨v', hx, H⟩
        exact ⟨(fun cv hc => by have h := Option.some.inj hc; cases h), ⟨v', (fun _ => (Sx.put_same F (by decide) _).trans hx), H⟩⟩
      · show Sx.StepAt _ _ _ _ _ _ _ 8
        intro L A w up hun hd F ⟨v2, p7, H⟩
        have t7 : L 7 = true := hd 7 rfl
        rw [t7] at H
        have F := Sx.Fr.to F (kv' := [(57, v1), (56, .bool true)]) ⟨rfl, rfl, trivial⟩
        have F := Sx.Fr.add F (p7 t7)
        refine Sx.step_ong rfl (Sx.guard_known (d := 56) (b := true) F rfl rfl) rfl (Sx.d_call (vs := [v1, v2]) (v := .bool true) if_42 F H rfl rfl (words_same ([0#64, 0#64]) (by decide) _ _ _ _ _ (Sx.rowEq (H.row 0 _ rfl rfl) rfl rfl rfl (rfl) (show _ = u64s [0#64, 0#64] from congrArg u64s (by decide +kernel))) (Sx.rowEq (H.row 1 _ rfl rfl) rfl rfl rfl (rfl) (rfl)))) ?_
        rintro xv w' ⟨hx, H⟩
        exact ⟨(fun cv hc => hx.trans (Option.some.inj (Option.some.inj hc))), ⟨v2, (fun h => (Sx.put_ne rfl _).trans (p7 h)), (by show Sx.Own _ _ _ _; rw [show Inv.add L 8 7 = true from t7]; exact H)⟩⟩
      · show Sx.StepAt _ _ _ _ _ _ _ 9
        intro L A w up hun hd F ⟨v2, p7, H⟩
        have t7 : L 7 = true := by
          cases hb : L 7 with
          | true => rfl
          | false =>
            have hb8 := up 8 7 rfl hb
            rw [hd 8 rfl] at hb8; cases hb8
        rw [t7] at H
        have F := Sx.Fr.to F (kv' := [(56, .bool true), (59, .bool true)]) ⟨rfl, rfl, trivial⟩
        have F := Sx.Fr.add F (p7 t7)
        refine Sx.step_on rfl (Sx.d_pickT (v := .bool true) F rfl rfl rfl) ?_
        rintro xv w' ⟨hx, rfl⟩
        exact ⟨(fun cv hc => hx.trans (Option.some.inj (Option.some.inj hc))), ⟨v2, (fun h => (Sx.put_ne rfl _).trans (p7 h)), (by show Sx.Own _ _ _ _; rw [show Inv.add L 9 7 = true from t7]; exact H)⟩⟩
      · show Sx.StepAt _ _ _ _ _ _ _ 10
        intro L A w up hun hd F ⟨v2, p7, H⟩
        have t7 : L 7 = true := by
          cases hb : L 7 with
          | true => rfl
          | false =>
            have hb8 := up 8 7 rfl hb
            rw [hd 8 rfl] at hb8; cases hb8
        rw [t7] at H
        have F := Sx.Fr.to F (kv' := [(60, .bool true)]) ⟨rfl, trivial⟩
        have F := Sx.Fr.add F (p7 t7)
        refine Sx.step_on rfl (Sx.d_move F (Or.inl rfl) rfl) ?_
        rintro xv w' ⟨hx, rfl⟩
        exact ⟨(fun cv hc => hx.trans (Option.some.inj (Option.some.inj hc))), ⟨v2, (fun h => (Sx.put_ne rfl _).trans (p7 h)), (by show Sx.Own _ _ _ _; rw [show Inv.add L 10 7 = true from t7]; exact H)⟩⟩
      · show Sx.StepAt _ _ _ _ _ _ _ 11
        intro L A w up hun hd F ⟨v2, p7, H⟩
        have t7 : L 7 = true := by
          cases hb : L 7 with
          | true => rfl
          | false =>
            have hb8 := up 8 7 rfl hb
            have hb10 := up 10 8 rfl hb8
            rw [hd 10 rfl] at hb10; cases hb10
        rw [t7] at H
        have F := Sx.Fr.to F (kv' := [(5, .int .i64 0), (61, .bool true)]) ⟨rfl, rfl, trivial⟩
        have F := Sx.Fr.add F (p7 t7)
        refine Sx.step_ong rfl (Sx.guard_known (d := 61) (b := true) F rfl rfl) rfl (Sx.d_move F (Or.inl rfl) rfl) ?_
        rintro xv w' ⟨hx, rfl⟩
        exact ⟨(fun cv hc => hx.trans (Option.some.inj (Option.some.inj hc))), ⟨v2, (fun h => (Sx.put_ne rfl _).trans (p7 h)), (by show Sx.Own _ _ _ _; rw [show Inv.add L 11 7 = true from t7]; exact H)⟩⟩
      · show Sx.StepAt _ _ _ _ _ _ _ 12
        intro L A w up hun hd F ⟨v2, p7, H⟩
        have t7 : L 7 = true := by
          cases hb : L 7 with
          | true => rfl
          | false =>
            have hb8 := up 8 7 rfl hb
            have hb10 := up 10 8 rfl hb8
            rw [hd 10 rfl] at hb10; cases hb10
        rw [t7] at H
        have F := Sx.Fr.to F (kv' := [(62, .int .i64 0), (61, .bool true)]) ⟨rfl, rfl, trivial⟩
        have F := Sx.Fr.add F (p7 t7)
        refine Sx.step_ong rfl (Sx.guard_known (d := 61) (b := true) F rfl rfl) rfl (Sx.d_bin (v := .bool true) F rfl rfl rfl (Sx.i_eq (by decide))) ?_
        rintro xv w' ⟨hx, rfl⟩
        exact ⟨(fun cv hc => hx.trans (Option.some.inj (Option.some.inj hc))), ⟨v2, (fun h => (Sx.put_ne rfl _).trans (p7 h)), (by show Sx.Own _ _ _ _; rw [show Inv.add L 12 7 = true from t7]; exact H)⟩⟩
      · show Sx.StepAt _ _ _ _ _ _ _ 13
        intro L A w up hun hd F ⟨v2, p7, H⟩
        have t7 : L 7 = true := by
          cases hb : L 7 with
          | true => rfl
          | false =>
            have hb8 := up 8 7 rfl hb
            have hb10 := up 10 8 rfl hb8
            rw [hd 10 rfl] at hb10; cases hb10
        rw [t7] at H
        have F := Sx.Fr.to F (kv' := [(61, .bool true), (63, .bool true)]) ⟨rfl, rfl, trivial⟩
        have F := Sx.Fr.add F (p7 t7)
        refine Sx.step_on rfl (Sx.d_pickT (v := .bool true) F rfl rfl rfl) ?_
        rintro xv w' ⟨hx, rfl⟩
        exact ⟨(fun cv hc => hx.trans (Option.some.inj (Option.some.inj hc))), ⟨v2, (fun h => (Sx.put_ne rfl _).trans (p7 h)), (by show Sx.Own _ _ _ _; rw [show Inv.add L 13 7 = true from t7]; exact H)⟩⟩
      · show Sx.StepAt _ _ _ _ _ _ _ 14
        intro L A w up hun hd F ⟨v2, p7, H⟩
        have t7 : L 7 = true := by
          cases hb : L 7 with
          | true => rfl
          | false =>
            have hb8 := up 8 7 rfl hb
            have hb10 := up 10 8 rfl hb8
            rw [hd 10 rfl] at hb10; cases hb10
        rw [t7] at H
        have F := Sx.Fr.to F (kv' := [(64, .bool true)]) ⟨rfl, trivial⟩
        have F := Sx.Fr.add F (p7 t7)
        refine Sx.step_on rfl (Sx.d_move F (Or.inl rfl) rfl) ?_
        rintro xv w' ⟨hx, rfl⟩
        exact ⟨(fun cv hc => hx.trans (Option.some.inj (Option.some.inj hc))), ⟨v2, (fun h => (Sx.put_ne rfl _).trans (p7 h)), (by show Sx.Own _ _ _ _; rw [show Inv.add L 14 7 = true from t7]; exact H)⟩⟩
      · show Sx.StepAt _ _ _ _ _ _ _ 15
        intro L A w up hun hd F ⟨v2, p7, H⟩
        have t7 : L 7 = true := by
          cases hb : L 7 with
          | true => rfl
          | false =>
            have hb8 := up 8 7 rfl hb
            have hb10 := up 10 8 rfl hb8
            have hb14 := up 14 10 rfl hb10
            rw [hd 14 rfl] at hb14; cases hb14
        rw [t7] at H
        have F := Sx.Fr.to F (kv' := [(4, .pointer (some ⟨g3, 0, none⟩)), (65, .bool true)]) ⟨rfl, rfl, trivial⟩
        have F := Sx.Fr.add F (p7 t7)
        refine Sx.step_ong rfl (Sx.guard_known (d := 65) (b := true) F rfl rfl) rfl (Sx.d_load (i := 3) (xs := [.int .u64 ((Wd.hi (Pc.its 1#128 2 0#128)).toNat), .int .u64 ((Wd.lo (Pc.its 1#128 2 0#128)).toNat), .int .u64 ((Wd.hi 1#128).toNat), .int .u64 ((Wd.lo 1#128).toNat)]) rw_57 F H rfl rfl rfl rfl rfl) ?_
        rintro xv w' ⟨hx, rfl⟩
        exact ⟨(fun cv hc => hx.trans (Option.some.inj (Option.some.inj hc))), ⟨v2, (fun h => (Sx.put_ne rfl _).trans (p7 h)), (by show Sx.Own _ _ _ _; rw [show Inv.add L 15 7 = true from t7]; exact H)⟩⟩
      · show Sx.StepAt _ _ _ _ _ _ _ 16
        intro L A w up hun hd F ⟨v2, p7, H⟩
        have t7 : L 7 = true := by
          cases hb : L 7 with
          | true => rfl
          | false =>
            have hb8 := up 8 7 rfl hb
            have hb10 := up 10 8 rfl hb8
            have hb14 := up 14 10 rfl hb10
            rw [hd 14 rfl] at hb14; cases hb14
        rw [t7] at H
        have F := Sx.Fr.to F (kv' := [(12, .pointer (some ⟨g6, 0, none⟩)), (65, .bool true)]) ⟨rfl, rfl, trivial⟩
        have F := Sx.Fr.add F (p7 t7)
        refine Sx.step_ong rfl (Sx.guard_known (d := 65) (b := true) F rfl rfl) rfl (Sx.d_load (i := 6) (xs := [.int .u64 ((Wd.hi ((Pc.jump ⟨0#128, 1#128⟩ 2#128).s)).toNat), .int .u64 ((Wd.lo ((Pc.jump ⟨0#128, 1#128⟩ 2#128).s)).toNat), .int .u64 ((Wd.hi 1#128).toNat), .int .u64 ((Wd.lo 1#128).toNat)]) rw_57 F H rfl rfl rfl rfl rfl) ?_
        rintro xv w' ⟨hx, rfl⟩
        exact ⟨(fun cv hc => hx.trans (Option.some.inj (Option.some.inj hc))), ⟨v2, (fun h => (Sx.put_ne rfl _).trans (p7 h)), (by show Sx.Own _ _ _ _; rw [show Inv.add L 16 7 = true from t7]; exact H)⟩⟩
      · show Sx.StepAt _ _ _ _ _ _ _ 17
        intro L A w up hun hd F ⟨v2, p7, H⟩
        have t7 : L 7 = true := by
          cases hb : L 7 with
          | true => rfl
          | false =>
            have hb8 := up 8 7 rfl hb
            have hb10 := up 10 8 rfl hb8
            have hb14 := up 14 10 rfl hb10
            rw [hd 14 rfl] at hb14; cases hb14
        rw [t7] at H
        have F := Sx.Fr.to F (kv' := [(66, .agg #[.int .u64 ((Wd.hi (Pc.its 1#128 2 0#128)).toNat), .int .u64 ((Wd.lo (Pc.its 1#128 2 0#128)).toNat), .int .u64 ((Wd.hi 1#128).toNat), .int .u64 ((Wd.lo 1#128).toNat)]), (67, .agg #[.int .u64 ((Wd.hi ((Pc.jump ⟨0#128, 1#128⟩ 2#128).s)).toNat), .int .u64 ((Wd.lo ((Pc.jump ⟨0#128, 1#128⟩ 2#128).s)).toNat), .int .u64 ((Wd.hi 1#128).toNat), .int .u64 ((Wd.lo 1#128).toNat)]), (65, .bool true)]) ⟨rfl, rfl, rfl, trivial⟩
        have F := Sx.Fr.add F (p7 t7)
        refine Sx.step_ong rfl (Sx.guard_known (d := 65) (b := true) F rfl rfl) rfl (Sx.d_bin (v := .bool true) F rfl rfl rfl (Sx.i_eqP (by kernel_rfl))) ?_
        rintro xv w' ⟨hx, rfl⟩
        exact ⟨(fun cv hc => hx.trans (Option.some.inj (Option.some.inj hc))), ⟨v2, (fun h => (Sx.put_ne rfl _).trans (p7 h)), (by show Sx.Own _ _ _ _; rw [show Inv.add L 17 7 = true from t7]; exact H)⟩⟩
      · show Sx.StepAt _ _ _ _ _ _ _ 18
        intro L A w up hun hd F ⟨v2, p7, H⟩
        have t7 : L 7 = true := by
          cases hb : L 7 with
          | true => rfl
          | false =>
            have hb8 := up 8 7 rfl hb
            have hb10 := up 10 8 rfl hb8
            have hb14 := up 14 10 rfl hb10
            rw [hd 14 rfl] at hb14; cases hb14
        rw [t7] at H
        have F := Sx.Fr.to F (kv' := [(65, .bool true), (68, .bool true)]) ⟨rfl, rfl, trivial⟩
        have F := Sx.Fr.add F (p7 t7)
        refine Sx.step_on rfl (Sx.d_pickT (v := .bool true) F rfl rfl rfl) ?_
        rintro xv w' ⟨hx, rfl⟩
        exact ⟨(fun cv hc => hx.trans (Option.some.inj (Option.some.inj hc))), ⟨v2, (fun h => (Sx.put_ne rfl _).trans (p7 h)), (by show Sx.Own _ _ _ _; rw [show Inv.add L 18 7 = true from t7]; exact H)⟩⟩
      · show Sx.StepAt _ _ _ _ _ _ _ 19
        intro L A w up hun hd F ⟨v2, p7, H⟩
        have t7 : L 7 = true := by
          cases hb : L 7 with
          | true => rfl
          | false =>
            have hb8 := up 8 7 rfl hb
            have hb10 := up 10 8 rfl hb8
            have hb14 := up 14 10 rfl hb10
            rw [hd 14 rfl] at hb14; cases hb14
        rw [t7] at H
        have F := Sx.Fr.to F (kv' := [(69, .bool true)]) ⟨rfl, trivial⟩
        have F := Sx.Fr.add F (p7 t7)
        refine Sx.step_on rfl (Sx.d_move F (Or.inl rfl) rfl) ?_
        rintro xv w' ⟨hx, rfl⟩
        exact ⟨(fun cv hc => hx.trans (Option.some.inj (Option.some.inj hc))), ⟨v2, (fun h => (Sx.put_ne rfl _).trans (p7 h)), (by show Sx.Own _ _ _ _; rw [show Inv.add L 19 7 = true from t7]; exact H)⟩⟩
      · show Sx.StepAt _ _ _ _ _ _ _ 20
        intro L A w up hun hd F ⟨v2, p7, H⟩
        have t7 : L 7 = true := by
          cases hb : L 7 with
          | true => rfl
          | false =>
            have hb8 := up 8 7 rfl hb
            have hb10 := up 10 8 rfl hb8
            have hb14 := up 14 10 rfl hb10
            have hb19 := up 19 14 rfl hb14
            rw [hd 19 rfl] at hb19; cases hb19
        rw [t7] at H
        have F := Sx.Fr.to F (kv' := [(8, .int .i64 3), (70, .bool true)]) ⟨rfl, rfl, trivial⟩
        have F := Sx.Fr.add F (p7 t7)
        refine Sx.step_ong rfl (Sx.guard_known (d := 70) (b := true) F rfl rfl) rfl (Sx.d_move F (Or.inl rfl) rfl) ?_
        rintro xv w' ⟨hx, rfl⟩
        exact ⟨(fun cv hc => hx.trans (Option.some.inj (Option.some.inj hc))), ⟨v2, (fun h => (Sx.put_ne rfl _).trans (p7 h)), (by show Sx.Own _ _ _ _; rw [show Inv.add L 20 7 = true from t7]; exact H)⟩⟩
      · show Sx.StepAt _ _ _ _ _ _ _ 21
        intro L A w up hun hd F ⟨v2, p7, H⟩
        have t7 : L 7 = true := by
          cases hb : L 7 with
          | true => rfl
          | false =>
            have hb8 := up 8 7 rfl hb
            have hb10 := up 10 8 rfl hb8
            have hb14 := up 14 10 rfl hb10
            have hb19 := up 19 14 rfl hb14
            rw [hd 19 rfl] at hb19; cases hb19
        rw [t7] at H
        have F := Sx.Fr.to F (kv' := [(71, .int .i64 3), (70, .bool true)]) ⟨rfl, rfl, trivial⟩
        have F := Sx.Fr.add F (p7 t7)
        refine Sx.step_ong rfl (Sx.guard_known (d := 70) (b := true) F rfl rfl) rfl (Sx.d_bin (v := .bool true) F rfl rfl rfl (Sx.i_eq (by decide))) ?_
        rintro xv w' ⟨hx, rfl⟩
        exact ⟨(fun cv hc => hx.trans (Option.some.inj (Option.some.inj hc))), ⟨v2, (fun h => (Sx.put_ne rfl _).trans (p7 h)), (by show Sx.Own _ _ _ _; rw [show Inv.add L 21 7 = true from t7]; exact H)⟩⟩
      · show Sx.StepAt _ _ _ _ _ _ _ 22
        intro L A w up hun hd F ⟨v2, p7, H⟩
        have t7 : L 7 = true := by
          cases hb : L 7 with
          | true => rfl
          | false =>
            have hb8 := up 8 7 rfl hb
            have hb10 := up 10 8 rfl hb8
            have hb14 := up 14 10 rfl hb10
            have hb19 := up 19 14 rfl hb14
            rw [hd 19 rfl] at hb19; cases hb19
        rw [t7] at H
        have F := Sx.Fr.to F (kv' := [(70, .bool true), (72, .bool true)]) ⟨rfl, rfl, trivial⟩
        have F := Sx.Fr.add F (p7 t7)
        refine Sx.step_on rfl (Sx.d_pickT (v := .bool true) F rfl rfl rfl) ?_
        rintro xv w' ⟨hx, rfl⟩
        exact ⟨(fun cv hc => hx.trans (Option.some.inj (Option.some.inj hc))), ⟨v2, (fun h => (Sx.put_ne rfl _).trans (p7 h)), (by show Sx.Own _ _ _ _; rw [show Inv.add L 22 7 = true from t7]; exact H)⟩⟩
      · show Sx.StepAt _ _ _ _ _ _ _ 23
        intro L A w up hun hd F ⟨v2, p7, H⟩
        have t7 : L 7 = true := by
          cases hb : L 7 with
          | true => rfl
          | false =>
            have hb8 := up 8 7 rfl hb
            have hb10 := up 10 8 rfl hb8
            have hb14 := up 14 10 rfl hb10
            have hb19 := up 19 14 rfl hb14
            rw [hd 19 rfl] at hb19; cases hb19
        rw [t7] at H
        have F := Sx.Fr.to F (kv' := [(73, .bool true)]) ⟨rfl, trivial⟩
        have F := Sx.Fr.add F (p7 t7)
        refine Sx.step_on rfl (Sx.d_move F (Or.inl rfl) rfl) ?_
        rintro xv w' ⟨hx, rfl⟩
        exact ⟨(fun cv hc => hx.trans (Option.some.inj (Option.some.inj hc))), ⟨v2, (fun h => (Sx.put_ne rfl _).trans (p7 h)), (by show Sx.Own _ _ _ _; rw [show Inv.add L 23 7 = true from t7]; exact H)⟩⟩
      · show Sx.StepAt _ _ _ _ _ _ _ 24
        intro L A w up hun hd F ⟨v2, p7, H⟩
        have t7 : L 7 = true := by
          cases hb : L 7 with
          | true => rfl
          | false =>
            have hb8 := up 8 7 rfl hb
            have hb10 := up 10 8 rfl hb8
            have hb14 := up 14 10 rfl hb10
            have hb19 := up 19 14 rfl hb14
            have hb23 := up 23 19 rfl hb19
            rw [hd 23 rfl] at hb23; cases hb23
        rw [t7] at H
        have F := Sx.Fr.to F (kv' := [(11, .int .i64 1), (74, .bool true)]) ⟨rfl, rfl, trivial⟩
        have F := Sx.Fr.add F (p7 t7)
        refine Sx.step_ong rfl (Sx.guard_known (d := 74) (b := true) F rfl rfl) rfl (Sx.d_move F (Or.inl rfl) rfl) ?_
        rintro xv w' ⟨hx, rfl⟩
        exact ⟨(fun cv hc => hx.trans (Option.some.inj (Option.some.inj hc))), ⟨v2, (fun h => (Sx.put_ne rfl _).trans (p7 h)), (by show Sx.Own _ _ _ _; rw [show Inv.add L 24 7 = true from t7]; exact H)⟩⟩
      · show Sx.StepAt _ _ _ _ _ _ _ 25
        intro L A w up hun hd F ⟨v2, p7, H⟩
        have t7 : L 7 = true := by
          cases hb : L 7 with
          | true => rfl
          | false =>
            have hb8 := up 8 7 rfl hb
            have hb10 := up 10 8 rfl hb8
            have hb14 := up 14 10 rfl hb10
            have hb19 := up 19 14 rfl hb14
            have hb23 := up 23 19 rfl hb19
            rw [hd 23 rfl] at hb23; cases hb23
        rw [t7] at H
        have F := Sx.Fr.to F (kv' := [(75, .int .i64 1), (74, .bool true)]) ⟨rfl, rfl, trivial⟩
        have F := Sx.Fr.add F (p7 t7)
        refine Sx.step_ong rfl (Sx.guard_known (d := 74) (b := true) F rfl rfl) rfl (Sx.d_bin (v := .bool true) F rfl rfl rfl (Sx.i_eq (by decide))) ?_
        rintro xv w' ⟨hx, rfl⟩
        exact ⟨(fun cv hc => hx.trans (Option.some.inj (Option.some.inj hc))), ⟨v2, (fun h => (Sx.put_ne rfl _).trans (p7 h)), (by show Sx.Own _ _ _ _; rw [show Inv.add L 25 7 = true from t7]; exact H)⟩⟩
      · show Sx.StepAt _ _ _ _ _ _ _ 26
        intro L A w up hun hd F ⟨v2, p7, H⟩
        have t7 : L 7 = true := by
          cases hb : L 7 with
          | true => rfl
          | false =>
            have hb8 := up 8 7 rfl hb
            have hb10 := up 10 8 rfl hb8
            have hb14 := up 14 10 rfl hb10
            have hb19 := up 19 14 rfl hb14
            have hb23 := up 23 19 rfl hb19
            rw [hd 23 rfl] at hb23; cases hb23
        rw [t7] at H
        have F := Sx.Fr.to F (kv' := [(74, .bool true), (76, .bool true)]) ⟨rfl, rfl, trivial⟩
        have F := Sx.Fr.add F (p7 t7)
        refine Sx.step_on rfl (Sx.d_pickT (v := .bool true) F rfl rfl rfl) ?_
        rintro xv w' ⟨hx, rfl⟩
        exact ⟨(fun cv hc => hx.trans (Option.some.inj (Option.some.inj hc))), ⟨v2, (fun h => (Sx.put_ne rfl _).trans (p7 h)), (by show Sx.Own _ _ _ _; rw [show Inv.add L 26 7 = true from t7]; exact H)⟩⟩
      · show Sx.StepAt _ _ _ _ _ _ _ 27
        intro L A w up hun hd F ⟨v2, p7, H⟩
        have t7 : L 7 = true := by
          cases hb : L 7 with
          | true => rfl
          | false =>
            have hb8 := up 8 7 rfl hb
            have hb10 := up 10 8 rfl hb8
            have hb14 := up 14 10 rfl hb10
            have hb19 := up 19 14 rfl hb14
            have hb23 := up 23 19 rfl hb19
            rw [hd 23 rfl] at hb23; cases hb23
        rw [t7] at H
        have F := Sx.Fr.to F (kv' := [(77, .bool true)]) ⟨rfl, trivial⟩
        have F := Sx.Fr.add F (p7 t7)
        refine Sx.step_on rfl (Sx.d_move F (Or.inl rfl) rfl) ?_
        rintro xv w' ⟨hx, rfl⟩
        exact ⟨(fun cv hc => hx.trans (Option.some.inj (Option.some.inj hc))), ⟨v2, (fun h => (Sx.put_ne rfl _).trans (p7 h)), (by show Sx.Own _ _ _ _; rw [show Inv.add L 27 7 = true from t7]; exact H)⟩⟩
      · show Sx.StepAt _ _ _ _ _ _ _ 28
        intro L A w up hun hd F ⟨v2, p7, H⟩
        have t7 : L 7 = true := by
          cases hb : L 7 with
          | true => rfl
          | false =>
            have hb8 := up 8 7 rfl hb
            have hb10 := up 10 8 rfl hb8
            have hb14 := up 14 10 rfl hb10
            have hb19 := up 19 14 rfl hb14
            have hb23 := up 23 19 rfl hb19
            have hb27 := up 27 23 rfl hb23
            rw [hd 27 rfl] at hb27; cases hb27
        rw [t7] at H
        have F := Sx.Fr.to F (kv' := [(12, .pointer (some ⟨g6, 0, none⟩)), (78, .bool true)]) ⟨rfl, rfl, trivial⟩
        have F := Sx.Fr.add F (p7 t7)
        refine Sx.step_ong rfl (Sx.guard_known (d := 78) (b := true) F rfl rfl) rfl (Sx.d_load (i := 6) (xs := [.int .u64 ((Wd.hi ((Pc.jump ⟨0#128, 1#128⟩ 2#128).s)).toNat), .int .u64 ((Wd.lo ((Pc.jump ⟨0#128, 1#128⟩ 2#128).s)).toNat), .int .u64 ((Wd.hi 1#128).toNat), .int .u64 ((Wd.lo 1#128).toNat)]) rw_57 F H rfl rfl rfl rfl rfl) ?_
        rintro xv w' ⟨hx, rfl⟩
        exact ⟨(fun cv hc => hx.trans (Option.some.inj (Option.some.inj hc))), ⟨v2, (fun h => (Sx.put_ne rfl _).trans (p7 h)), (by show Sx.Own _ _ _ _; rw [show Inv.add L 28 7 = true from t7]; exact H)⟩⟩
      · show Sx.StepAt _ _ _ _ _ _ _ 29
        intro L A w up hun hd F ⟨v2, p7, H⟩
        have t7 : L 7 = true := by
          cases hb : L 7 with
          | true => rfl
          | false =>
            have hb8 := up 8 7 rfl hb
            have hb10 := up 10 8 rfl hb8
            have hb14 := up 14 10 rfl hb10
            have hb19 := up 19 14 rfl hb14
            have hb23 := up 23 19 rfl hb19
            have hb27 := up 27 23 rfl hb23
            rw [hd 27 rfl] at hb27; cases hb27
        rw [t7] at H
        have F := Sx.Fr.to F (kv' := [(78, .bool true)]) ⟨rfl, trivial⟩
        have F := Sx.Fr.add F (p7 t7)
        refine Sx.step_ong rfl (Sx.guard_known (d := 78) (b := true) F rfl rfl) rfl (Sx.d_call (vs := [.int .u64 15750249268501108918]) (v := .agg #[.int .u64 ((Wd.hi 15750249268501108918#128).toNat), .int .u64 ((Wd.lo 15750249268501108918#128).toNat)]) if_29 F H rfl rfl (Calls.val (wofV_c 15750249268501108918#64 _) (by kernel_rfl) (by kernel_rfl))) ?_
        rintro xv w' ⟨hx, H⟩
        exact ⟨(fun cv hc => hx.trans (Option.some.inj (Option.some.inj hc))), ⟨v2, (fun h => (Sx.put_ne rfl _).trans (p7 h)), (by show Sx.Own _ _ _ _; rw [show Inv.add L 29 7 = true from t7]; exact H)⟩⟩
      · show Sx.StepAt _ _ _ _ _ _ _ 30
        intro L A w up hun hd F ⟨v2, p7, H⟩
        have t7 : L 7 = true := by
          cases hb : L 7 with
          | true => rfl
          | false =>
            have hb8 := up 8 7 rfl hb
            have hb10 := up 10 8 rfl hb8
            have hb14 := up 14 10 rfl hb10
            have hb19 := up 19 14 rfl hb14
            have hb23 := up 23 19 rfl hb19
            have hb27 := up 27 23 rfl hb23
            rw [hd 27 rfl] at hb27; cases hb27
        rw [t7] at H
        have F := Sx.Fr.to F (kv' := [(78, .bool true)]) ⟨rfl, trivial⟩
        have F := Sx.Fr.add F (p7 t7)
        refine Sx.step_ong rfl (Sx.guard_known (d := 78) (b := true) F rfl rfl) rfl (Sx.d_call (vs := [.int .u64 1]) (v := .agg #[.int .u64 ((Wd.hi 1#128).toNat), .int .u64 ((Wd.lo 1#128).toNat)]) if_29 F H rfl rfl (Calls.val (wofV_c 1#64 _) (by kernel_rfl) (by kernel_rfl))) ?_
        rintro xv w' ⟨hx, H⟩
        exact ⟨(fun cv hc => hx.trans (Option.some.inj (Option.some.inj hc))), ⟨v2, (fun h => (Sx.put_ne rfl _).trans (p7 h)), (by show Sx.Own _ _ _ _; rw [show Inv.add L 30 7 = true from t7]; exact H)⟩⟩
      · show Sx.StepAt _ _ _ _ _ _ _ 31
        intro L A w up hun hd F ⟨v2, p7, H⟩
        have t7 : L 7 = true := by
          cases hb : L 7 with
          | true => rfl
          | false =>
            have hb8 := up 8 7 rfl hb
            have hb10 := up 10 8 rfl hb8
            have hb14 := up 14 10 rfl hb10
            have hb19 := up 19 14 rfl hb14
            have hb23 := up 23 19 rfl hb19
            have hb27 := up 27 23 rfl hb23
            rw [hd 27 rfl] at hb27; cases hb27
        rw [t7] at H
        have F := Sx.Fr.to F (kv' := [(80, .agg #[.int .u64 ((Wd.hi 15750249268501108918#128).toNat), .int .u64 ((Wd.lo 15750249268501108918#128).toNat)]), (81, .agg #[.int .u64 ((Wd.hi 1#128).toNat), .int .u64 ((Wd.lo 1#128).toNat)]), (78, .bool true)]) ⟨rfl, rfl, rfl, trivial⟩
        have F := Sx.Fr.add F (p7 t7)
        refine Sx.step_ong rfl (Sx.guard_known (d := 78) (b := true) F rfl rfl) rfl (Sx.d_build (qs := #[(0, .agg #[.int .u64 ((Wd.hi 15750249268501108918#128).toNat), .int .u64 ((Wd.lo 15750249268501108918#128).toNat)]), (1, .agg #[.int .u64 ((Wd.hi 1#128).toNat), .int .u64 ((Wd.lo 1#128).toNat)])]) (v := .agg #[.int .u64 ((Wd.hi 15750249268501108918#128).toNat), .int .u64 ((Wd.lo 15750249268501108918#128).toNat), .int .u64 ((Wd.hi 1#128).toNat), .int .u64 ((Wd.lo 1#128).toNat)]) F rfl rfl (by kernel_rfl)) ?_
        rintro xv w' ⟨hx, rfl⟩
        exact ⟨(fun cv hc => hx.trans (Option.some.inj (Option.some.inj hc))), ⟨v2, (fun h => (Sx.put_ne rfl _).trans (p7 h)), (by show Sx.Own _ _ _ _; rw [show Inv.add L 31 7 = true from t7]; exact H)⟩⟩
      · show Sx.StepAt _ _ _ _ _ _ _ 32
        intro L A w up hun hd F ⟨v2, p7, H⟩
        have t7 : L 7 = true := by
          cases hb : L 7 with
          | true => rfl
          | false =>
            have hb8 := up 8 7 rfl hb
            have hb10 := up 10 8 rfl hb8
            have hb14 := up 14 10 rfl hb10
            have hb19 := up 19 14 rfl hb14
            have hb23 := up 23 19 rfl hb19
            have hb27 := up 27 23 rfl hb23
            rw [hd 27 rfl] at hb27; cases hb27
        rw [t7] at H
        have F := Sx.Fr.to F (kv' := [(79, .agg #[.int .u64 ((Wd.hi ((Pc.jump ⟨0#128, 1#128⟩ 2#128).s)).toNat), .int .u64 ((Wd.lo ((Pc.jump ⟨0#128, 1#128⟩ 2#128).s)).toNat), .int .u64 ((Wd.hi 1#128).toNat), .int .u64 ((Wd.lo 1#128).toNat)]), (82, .agg #[.int .u64 ((Wd.hi 15750249268501108918#128).toNat), .int .u64 ((Wd.lo 15750249268501108918#128).toNat), .int .u64 ((Wd.hi 1#128).toNat), .int .u64 ((Wd.lo 1#128).toNat)]), (78, .bool true)]) ⟨rfl, rfl, rfl, trivial⟩
        have F := Sx.Fr.add F (p7 t7)
        refine Sx.step_ong rfl (Sx.guard_known (d := 78) (b := true) F rfl rfl) rfl (Sx.d_bin (v := .bool true) F rfl rfl rfl (Sx.i_eqP (by kernel_rfl))) ?_
        rintro xv w' ⟨hx, rfl⟩
        exact ⟨(fun cv hc => hx.trans (Option.some.inj (Option.some.inj hc))), ⟨v2, (fun h => (Sx.put_ne rfl _).trans (p7 h)), (by show Sx.Own _ _ _ _; rw [show Inv.add L 32 7 = true from t7]; exact H)⟩⟩
      · show Sx.StepAt _ _ _ _ _ _ _ 33
        intro L A w up hun hd F ⟨v2, p7, H⟩
        have t7 : L 7 = true := by
          cases hb : L 7 with
          | true => rfl
          | false =>
            have hb8 := up 8 7 rfl hb
            have hb10 := up 10 8 rfl hb8
            have hb14 := up 14 10 rfl hb10
            have hb19 := up 19 14 rfl hb14
            have hb23 := up 23 19 rfl hb19
            have hb27 := up 27 23 rfl hb23
            rw [hd 27 rfl] at hb27; cases hb27
        rw [t7] at H
        have F := Sx.Fr.to F (kv' := [(78, .bool true), (83, .bool true)]) ⟨rfl, rfl, trivial⟩
        have F := Sx.Fr.add F (p7 t7)
        refine Sx.step_on rfl (Sx.d_pickT (v := .bool true) F rfl rfl rfl) ?_
        rintro xv w' ⟨hx, rfl⟩
        exact ⟨(fun cv hc => hx.trans (Option.some.inj (Option.some.inj hc))), ⟨v2, (fun h => (Sx.put_ne rfl _).trans (p7 h)), (by show Sx.Own _ _ _ _; rw [show Inv.add L 33 7 = true from t7]; exact H)⟩⟩
      · show Sx.StepAt _ _ _ _ _ _ _ 34
        intro L A w up hun hd F ⟨v2, p7, H⟩
        have t7 : L 7 = true := by
          cases hb : L 7 with
          | true => rfl
          | false =>
            have hb8 := up 8 7 rfl hb
            have hb10 := up 10 8 rfl hb8
            have hb14 := up 14 10 rfl hb10
            have hb19 := up 19 14 rfl hb14
            have hb23 := up 23 19 rfl hb19
            have hb27 := up 27 23 rfl hb23
            have hb30 := up 30 27 rfl hb27
            rw [hd 30 rfl] at hb30; cases hb30
        rw [t7] at H
        have F := Sx.Fr.to F (kv' := [(84, .bool true)]) ⟨rfl, trivial⟩
        have F := Sx.Fr.add F (p7 t7)
        refine Sx.step_on rfl (Sx.d_move F (Or.inl rfl) rfl) ?_
        rintro xv w' ⟨hx, rfl⟩
        exact ⟨(fun cv hc => hx.trans (Option.some.inj (Option.some.inj hc))), ⟨v2, (fun h => (Sx.put_ne rfl _).trans (p7 h)), (by show Sx.Own _ _ _ _; rw [show Inv.add L 34 7 = true from t7]; exact H)⟩⟩
      · show Sx.StepAt _ _ _ _ _ _ _ 35
        intro L A w up hun hd F ⟨v2, p7, H⟩
        have t7 : L 7 = true := by
          cases hb : L 7 with
          | true => rfl
          | false =>
            have hb8 := up 8 7 rfl hb
            have hb10 := up 10 8 rfl hb8
            have hb14 := up 14 10 rfl hb10
            have hb19 := up 19 14 rfl hb14
            have hb23 := up 23 19 rfl hb19
            have hb27 := up 27 23 rfl hb23
            have hb30 := up 30 27 rfl hb27
            have hb34 := up 34 30 rfl hb30
            rw [hd 34 rfl] at hb34; cases hb34
        rw [t7] at H
        have F := Sx.Fr.to F (kv' := [(13, .int .i64 0), (85, .bool true)]) ⟨rfl, rfl, trivial⟩
        have F := Sx.Fr.add F (p7 t7)
        refine Sx.step_ong rfl (Sx.guard_known (d := 85) (b := true) F rfl rfl) rfl (Sx.d_move F (Or.inl rfl) rfl) ?_
        rintro xv w' ⟨hx, rfl⟩
        exact ⟨(fun cv hc => hx.trans (Option.some.inj (Option.some.inj hc))), ⟨v2, (fun h => (Sx.put_ne rfl _).trans (p7 h)), (by show Sx.Own _ _ _ _; rw [show Inv.add L 35 7 = true from t7]; exact H)⟩⟩
      · show Sx.StepAt _ _ _ _ _ _ _ 36
        intro L A w up hun hd F ⟨v2, p7, H⟩
        have t7 : L 7 = true := by
          cases hb : L 7 with
          | true => rfl
          | false =>
            have hb8 := up 8 7 rfl hb
            have hb10 := up 10 8 rfl hb8
            have hb14 := up 14 10 rfl hb10
            have hb19 := up 19 14 rfl hb14
            have hb23 := up 23 19 rfl hb19
            have hb27 := up 27 23 rfl hb23
            have hb30 := up 30 27 rfl hb27
            have hb34 := up 34 30 rfl hb30
            rw [hd 34 rfl] at hb34; cases hb34
        rw [t7] at H
        have F := Sx.Fr.to F (kv' := [(86, .int .i64 0), (85, .bool true)]) ⟨rfl, rfl, trivial⟩
        have F := Sx.Fr.add F (p7 t7)
        refine Sx.step_ong rfl (Sx.guard_known (d := 85) (b := true) F rfl rfl) rfl (Sx.d_bin (v := .bool true) F rfl rfl rfl (Sx.i_eq (by decide))) ?_
        rintro xv w' ⟨hx, rfl⟩
        exact ⟨(fun cv hc => hx.trans (Option.some.inj (Option.some.inj hc))), ⟨v2, (fun h => (Sx.put_ne rfl _).trans (p7 h)), (by show Sx.Own _ _ _ _; rw [show Inv.add L 36 7 = true from t7]; exact H)⟩⟩
      · show Sx.StepAt _ _ _ _ _ _ _ 37
        intro L A w up hun hd F ⟨v2, p7, H⟩
        have t7 : L 7 = true := by
          cases hb : L 7 with
          | true => rfl
          | false =>
            have hb8 := up 8 7 rfl hb
            have hb10 := up 10 8 rfl hb8
            have hb14 := up 14 10 rfl hb10
            have hb19 := up 19 14 rfl hb14
            have hb23 := up 23 19 rfl hb19
            have hb27 := up 27 23 rfl hb23
            have hb30 := up 30 27 rfl hb27
            have hb34 := up 34 30 rfl hb30
            rw [hd 34 rfl] at hb34; cases hb34
        rw [t7] at H
        have F := Sx.Fr.to F (kv' := [(85, .bool true), (87, .bool true)]) ⟨rfl, rfl, trivial⟩
        have F := Sx.Fr.add F (p7 t7)
        refine Sx.step_on rfl (Sx.d_pickT (v := .bool true) F rfl rfl rfl) ?_
        rintro xv w' ⟨hx, rfl⟩
        exact ⟨(fun cv hc => hx.trans (Option.some.inj (Option.some.inj hc))), ⟨v2, (fun h => (Sx.put_ne rfl _).trans (p7 h)), (by show Sx.Own _ _ _ _; rw [show Inv.add L 37 7 = true from t7]; exact H)⟩⟩
      · show Sx.StepAt _ _ _ _ _ _ _ 38
        intro L A w up hun hd F ⟨v2, p7, H⟩
        have t7 : L 7 = true := by
          cases hb : L 7 with
          | true => rfl
          | false =>
            have hb8 := up 8 7 rfl hb
            have hb10 := up 10 8 rfl hb8
            have hb14 := up 14 10 rfl hb10
            have hb19 := up 19 14 rfl hb14
            have hb23 := up 23 19 rfl hb19
            have hb27 := up 27 23 rfl hb23
            have hb30 := up 30 27 rfl hb27
            have hb34 := up 34 30 rfl hb30
            rw [hd 34 rfl] at hb34; cases hb34
        rw [t7] at H
        have F := Sx.Fr.to F (kv' := [(88, .bool true)]) ⟨rfl, trivial⟩
        have F := Sx.Fr.add F (p7 t7)
        refine Sx.step_on rfl (Sx.d_move F (Or.inl rfl) rfl) ?_
        rintro xv w' ⟨hx, rfl⟩
        exact ⟨(fun cv hc => hx.trans (Option.some.inj (Option.some.inj hc))), ⟨v2, (fun h => (Sx.put_ne rfl _).trans (p7 h)), (by show Sx.Own _ _ _ _; rw [show Inv.add L 38 7 = true from t7]; exact H)⟩⟩
      · show Sx.StepAt _ _ _ _ _ _ _ 39
        intro L A w up hun hd F ⟨v2, p7, H⟩
        have t7 : L 7 = true := by
          cases hb : L 7 with
          | true => rfl
          | false =>
            have hb8 := up 8 7 rfl hb
            have hb10 := up 10 8 rfl hb8
            have hb14 := up 14 10 rfl hb10
            have hb19 := up 19 14 rfl hb14
            have hb23 := up 23 19 rfl hb19
            have hb27 := up 27 23 rfl hb23
            have hb30 := up 30 27 rfl hb27
            have hb34 := up 34 30 rfl hb30
            have hb38 := up 38 34 rfl hb34
            rw [hd 38 rfl] at hb38; cases hb38
        rw [t7] at H
        have F := Sx.Fr.to F (kv' := [(15, .int .i64 3), (89, .bool true)]) ⟨rfl, rfl, trivial⟩
        have F := Sx.Fr.add F (p7 t7)
        refine Sx.step_ong rfl (Sx.guard_known (d := 89) (b := true) F rfl rfl) rfl (Sx.d_move F (Or.inl rfl) rfl) ?_
        rintro xv w' ⟨hx, rfl⟩
        exact ⟨(fun cv hc => hx.trans (Option.some.inj (Option.some.inj hc))), ⟨v2, (fun h => (Sx.put_ne rfl _).trans (p7 h)), (by show Sx.Own _ _ _ _; rw [show Inv.add L 39 7 = true from t7]; exact H)⟩⟩
      · show Sx.StepAt _ _ _ _ _ _ _ 40
        intro L A w up hun hd F ⟨v2, p7, H⟩
        have t7 : L 7 = true := by
          cases hb : L 7 with
          | true => rfl
          | false =>
            have hb8 := up 8 7 rfl hb
            have hb10 := up 10 8 rfl hb8
            have hb14 := up 14 10 rfl hb10
            have hb19 := up 19 14 rfl hb14
            have hb23 := up 23 19 rfl hb19
            have hb27 := up 27 23 rfl hb23
            have hb30 := up 30 27 rfl hb27
            have hb34 := up 34 30 rfl hb30
            have hb38 := up 38 34 rfl hb34
            rw [hd 38 rfl] at hb38; cases hb38
        rw [t7] at H
        have F := Sx.Fr.to F (kv' := [(90, .int .i64 3), (89, .bool true)]) ⟨rfl, rfl, trivial⟩
        have F := Sx.Fr.add F (p7 t7)
        refine Sx.step_ong rfl (Sx.guard_known (d := 89) (b := true) F rfl rfl) rfl (Sx.d_bin (v := .bool true) F rfl rfl rfl (Sx.i_eq (by decide))) ?_
        rintro xv w' ⟨hx, rfl⟩
        exact ⟨(fun cv hc => hx.trans (Option.some.inj (Option.some.inj hc))), ⟨v2, (fun h => (Sx.put_ne rfl _).trans (p7 h)), (by show Sx.Own _ _ _ _; rw [show Inv.add L 40 7 = true from t7]; exact H)⟩⟩
      · show Sx.StepAt _ _ _ _ _ _ _ 41
        intro L A w up hun hd F ⟨v2, p7, H⟩
        have t7 : L 7 = true := by
          cases hb : L 7 with
          | true => rfl
          | false =>
            have hb8 := up 8 7 rfl hb
            have hb10 := up 10 8 rfl hb8
            have hb14 := up 14 10 rfl hb10
            have hb19 := up 19 14 rfl hb14
            have hb23 := up 23 19 rfl hb19
            have hb27 := up 27 23 rfl hb23
            have hb30 := up 30 27 rfl hb27
            have hb34 := up 34 30 rfl hb30
            have hb38 := up 38 34 rfl hb34
            rw [hd 38 rfl] at hb38; cases hb38
        rw [t7] at H
        have F := Sx.Fr.to F (kv' := [(89, .bool true), (91, .bool true)]) ⟨rfl, rfl, trivial⟩
        have F := Sx.Fr.add F (p7 t7)
        refine Sx.step_on rfl (Sx.d_pickT (v := .bool true) F rfl rfl rfl) ?_
        rintro xv w' ⟨hx, rfl⟩
        exact ⟨(fun cv hc => hx.trans (Option.some.inj (Option.some.inj hc))), ⟨v2, (fun h => (Sx.put_ne rfl _).trans (p7 h)), (by show Sx.Own _ _ _ _; rw [show Inv.add L 41 7 = true from t7]; exact H)⟩⟩
      · show Sx.StepAt _ _ _ _ _ _ _ 42
        intro L A w up hun hd F ⟨v2, p7, H⟩
        have t7 : L 7 = true := by
          cases hb : L 7 with
          | true => rfl
          | false =>
            have hb8 := up 8 7 rfl hb
            have hb10 := up 10 8 rfl hb8
            have hb14 := up 14 10 rfl hb10
            have hb19 := up 19 14 rfl hb14
            have hb23 := up 23 19 rfl hb19
            have hb27 := up 27 23 rfl hb23
            have hb30 := up 30 27 rfl hb27
            have hb34 := up 34 30 rfl hb30
            have hb38 := up 38 34 rfl hb34
            rw [hd 38 rfl] at hb38; cases hb38
        rw [t7] at H
        have F := Sx.Fr.to F (kv' := [(92, .bool true)]) ⟨rfl, trivial⟩
        have F := Sx.Fr.add F (p7 t7)
        refine Sx.step_on rfl (Sx.d_move F (Or.inl rfl) rfl) ?_
        rintro xv w' ⟨hx, rfl⟩
        exact ⟨(fun cv hc => hx.trans (Option.some.inj (Option.some.inj hc))), ⟨v2, (fun h => (Sx.put_ne rfl _).trans (p7 h)), (by show Sx.Own _ _ _ _; rw [show Inv.add L 42 7 = true from t7]; exact H)⟩⟩
      · show Sx.StepAt _ _ _ _ _ _ _ 43
        intro L A w up hun hd F ⟨v2, p7, H⟩
        have t7 : L 7 = true := by
          cases hb : L 7 with
          | true => rfl
          | false =>
            have hb8 := up 8 7 rfl hb
            have hb10 := up 10 8 rfl hb8
            have hb14 := up 14 10 rfl hb10
            have hb19 := up 19 14 rfl hb14
            have hb23 := up 23 19 rfl hb19
            have hb27 := up 27 23 rfl hb23
            have hb30 := up 30 27 rfl hb27
            have hb34 := up 34 30 rfl hb30
            have hb38 := up 38 34 rfl hb34
            have hb42 := up 42 38 rfl hb38
            rw [hd 42 rfl] at hb42; cases hb42
        rw [t7] at H
        have F := Sx.Fr.to F (kv' := [(2, .pointer (some ⟨g2, 0, none⟩)), (93, .bool true)]) ⟨rfl, rfl, trivial⟩
        have F := Sx.Fr.add F (p7 t7)
        refine Sx.step_ong rfl (Sx.guard_known (d := 93) (b := true) F rfl rfl) rfl (Sx.d_load (i := 4) (xs := [.int .u64 ((Wd.hi ((Pc.step ⟨0#128, 1#128⟩).s)).toNat), .int .u64 ((Wd.lo ((Pc.step ⟨0#128, 1#128⟩).s)).toNat), .int .u64 ((Wd.hi 1#128).toNat), .int .u64 ((Wd.lo 1#128).toNat)]) rw_57 F H rfl rfl rfl rfl rfl) ?_
        rintro xv w' ⟨hx, rfl⟩
        exact ⟨(fun cv hc => hx.trans (Option.some.inj (Option.some.inj hc))), ⟨v2, (fun h => (Sx.put_ne rfl _).trans (p7 h)), (by show Sx.Own _ _ _ _; rw [show Inv.add L 43 7 = true from t7]; exact H)⟩⟩
      · show Sx.StepAt _ _ _ _ _ _ _ 44
        intro L A w up hun hd F ⟨v2, p7, H⟩
        have t7 : L 7 = true := by
          cases hb : L 7 with
          | true => rfl
          | false =>
            have hb8 := up 8 7 rfl hb
            have hb10 := up 10 8 rfl hb8
            have hb14 := up 14 10 rfl hb10
            have hb19 := up 19 14 rfl hb14
            have hb23 := up 23 19 rfl hb19
            have hb27 := up 27 23 rfl hb23
            have hb30 := up 30 27 rfl hb27
            have hb34 := up 34 30 rfl hb30
            have hb38 := up 38 34 rfl hb34
            have hb42 := up 42 38 rfl hb38
            rw [hd 42 rfl] at hb42; cases hb42
        rw [t7] at H
        have F := Sx.Fr.to F (kv' := [(94, .agg #[.int .u64 ((Wd.hi ((Pc.step ⟨0#128, 1#128⟩).s)).toNat), .int .u64 ((Wd.lo ((Pc.step ⟨0#128, 1#128⟩).s)).toNat), .int .u64 ((Wd.hi 1#128).toNat), .int .u64 ((Wd.lo 1#128).toNat)]), (93, .bool true)]) ⟨rfl, rfl, trivial⟩
        have F := Sx.Fr.add F (p7 t7)
        refine Sx.step_ong rfl (Sx.guard_known (d := 93) (b := true) F rfl rfl) rfl (Sx.d_call (vs := [.agg #[.int .u64 ((Wd.hi ((Pc.step ⟨0#128, 1#128⟩).s)).toNat), .int .u64 ((Wd.lo ((Pc.step ⟨0#128, 1#128⟩).s)).toNat), .int .u64 ((Wd.hi 1#128).toNat), .int .u64 ((Wd.lo 1#128).toNat)]]) (v := .agg #[.int .u64 ((Wd.hi ((Pc.back ⟨((Pc.step ⟨0#128, 1#128⟩).s), 1#128⟩).s)).toNat), .int .u64 ((Wd.lo ((Pc.back ⟨((Pc.step ⟨0#128, 1#128⟩).s), 1#128⟩).s)).toNat), .int .u64 ((Wd.hi 1#128).toNat), .int .u64 ((Wd.lo 1#128).toNat)]) if_43 F H rfl rfl (pback_c ((Pc.step ⟨0#128, 1#128⟩).s) 1#128 _)) ?_
        rintro xv w' ⟨hx, H⟩
        exact ⟨(fun cv hc => hx.trans (Option.some.inj (Option.some.inj hc))), ⟨v2, (fun h => (Sx.put_ne rfl _).trans (p7 h)), (by show Sx.Own _ _ _ _; rw [show Inv.add L 44 7 = true from t7]; exact H)⟩⟩
      · show Sx.StepAt _ _ _ _ _ _ _ 45
        intro L A w up hun hd F ⟨v2, p7, H⟩
        have t7 : L 7 = true := by
          cases hb : L 7 with
          | true => rfl
          | false =>
            have hb8 := up 8 7 rfl hb
            have hb10 := up 10 8 rfl hb8
            have hb14 := up 14 10 rfl hb10
            have hb19 := up 19 14 rfl hb14
            have hb23 := up 23 19 rfl hb19
            have hb27 := up 27 23 rfl hb23
            have hb30 := up 30 27 rfl hb27
            have hb34 := up 34 30 rfl hb30
            have hb38 := up 38 34 rfl hb34
            have hb42 := up 42 38 rfl hb38
            rw [hd 42 rfl] at hb42; cases hb42
        rw [t7] at H
        have F := Sx.Fr.to F (kv' := [(1, .pointer (some ⟨g1, 0, none⟩)), (93, .bool true)]) ⟨rfl, rfl, trivial⟩
        have F := Sx.Fr.add F (p7 t7)
        refine Sx.step_ong rfl (Sx.guard_known (d := 93) (b := true) F rfl rfl) rfl (Sx.d_load (i := 5) (xs := [.int .u64 ((Wd.hi 0#128).toNat), .int .u64 ((Wd.lo 0#128).toNat), .int .u64 ((Wd.hi 1#128).toNat), .int .u64 ((Wd.lo 1#128).toNat)]) rw_57 F H rfl rfl rfl rfl rfl) ?_
        rintro xv w' ⟨hx, rfl⟩
        exact ⟨(fun cv hc => hx.trans (Option.some.inj (Option.some.inj hc))), ⟨v2, (fun h => (Sx.put_ne rfl _).trans (p7 h)), (by show Sx.Own _ _ _ _; rw [show Inv.add L 45 7 = true from t7]; exact H)⟩⟩
      · show Sx.StepAt _ _ _ _ _ _ _ 46
        intro L A w up hun hd F ⟨v2, p7, H⟩
        have t7 : L 7 = true := by
          cases hb : L 7 with
          | true => rfl
          | false =>
            have hb8 := up 8 7 rfl hb
            have hb10 := up 10 8 rfl hb8
            have hb14 := up 14 10 rfl hb10
            have hb19 := up 19 14 rfl hb14
            have hb23 := up 23 19 rfl hb19
            have hb27 := up 27 23 rfl hb23
            have hb30 := up 30 27 rfl hb27
            have hb34 := up 34 30 rfl hb30
            have hb38 := up 38 34 rfl hb34
            have hb42 := up 42 38 rfl hb38
            rw [hd 42 rfl] at hb42; cases hb42
        rw [t7] at H
        have F := Sx.Fr.to F (kv' := [(95, .agg #[.int .u64 ((Wd.hi ((Pc.back ⟨((Pc.step ⟨0#128, 1#128⟩).s), 1#128⟩).s)).toNat), .int .u64 ((Wd.lo ((Pc.back ⟨((Pc.step ⟨0#128, 1#128⟩).s), 1#128⟩).s)).toNat), .int .u64 ((Wd.hi 1#128).toNat), .int .u64 ((Wd.lo 1#128).toNat)]), (96, .agg #[.int .u64 ((Wd.hi 0#128).toNat), .int .u64 ((Wd.lo 0#128).toNat), .int .u64 ((Wd.hi 1#128).toNat), .int .u64 ((Wd.lo 1#128).toNat)]), (93, .bool true)]) ⟨rfl, rfl, rfl, trivial⟩
        have F := Sx.Fr.add F (p7 t7)
        refine Sx.step_ong rfl (Sx.guard_known (d := 93) (b := true) F rfl rfl) rfl (Sx.d_bin (v := .bool true) F rfl rfl rfl (Sx.i_eqP (by kernel_rfl))) ?_
        rintro xv w' ⟨hx, rfl⟩
        exact ⟨(fun cv hc => hx.trans (Option.some.inj (Option.some.inj hc))), ⟨v2, (fun h => (Sx.put_ne rfl _).trans (p7 h)), (by show Sx.Own _ _ _ _; rw [show Inv.add L 46 7 = true from t7]; exact H)⟩⟩
      · show Sx.StepAt _ _ _ _ _ _ _ 47
        intro L A w up hun hd F ⟨v2, p7, H⟩
        have t7 : L 7 = true := by
          cases hb : L 7 with
          | true => rfl
          | false =>
            have hb8 := up 8 7 rfl hb
            have hb10 := up 10 8 rfl hb8
            have hb14 := up 14 10 rfl hb10
            have hb19 := up 19 14 rfl hb14
            have hb23 := up 23 19 rfl hb19
            have hb27 := up 27 23 rfl hb23
            have hb30 := up 30 27 rfl hb27
            have hb34 := up 34 30 rfl hb30
            have hb38 := up 38 34 rfl hb34
            have hb42 := up 42 38 rfl hb38
            rw [hd 42 rfl] at hb42; cases hb42
        rw [t7] at H
        have F := Sx.Fr.to F (kv' := [(93, .bool true), (97, .bool true)]) ⟨rfl, rfl, trivial⟩
        have F := Sx.Fr.add F (p7 t7)
        refine Sx.step_on rfl (Sx.d_pickT (v := .bool true) F rfl rfl rfl) ?_
        rintro xv w' ⟨hx, rfl⟩
        exact ⟨(fun cv hc => hx.trans (Option.some.inj (Option.some.inj hc))), ⟨v2, (fun h => (Sx.put_ne rfl _).trans (p7 h)), (by show Sx.Own _ _ _ _; rw [show Inv.add L 47 7 = true from t7]; exact H)⟩⟩
      · show Sx.StepAt _ _ _ _ _ _ _ 48
        intro L A w up hun hd F ⟨v2, p7, H⟩
        have t7 : L 7 = true := by
          cases hb : L 7 with
          | true => rfl
          | false =>
            have hb8 := up 8 7 rfl hb
            have hb10 := up 10 8 rfl hb8
            have hb14 := up 14 10 rfl hb10
            have hb19 := up 19 14 rfl hb14
            have hb23 := up 23 19 rfl hb19
            have hb27 := up 27 23 rfl hb23
            have hb30 := up 30 27 rfl hb27
            have hb34 := up 34 30 rfl hb30
            have hb38 := up 38 34 rfl hb34
            have hb42 := up 42 38 rfl hb38
            have hb44 := up 44 42 rfl hb42
            rw [hd 44 rfl] at hb44; cases hb44
        rw [t7] at H
        have F := Sx.Fr.to F (kv' := [(98, .bool true)]) ⟨rfl, trivial⟩
        have F := Sx.Fr.add F (p7 t7)
        refine Sx.step_on rfl (Sx.d_move F (Or.inl rfl) rfl) ?_
        rintro xv w' ⟨hx, rfl⟩
        exact ⟨(fun cv hc => hx.trans (Option.some.inj (Option.some.inj hc))), ⟨v2, (fun h => (Sx.put_ne rfl _).trans (p7 h)), (by show Sx.Own _ _ _ _; rw [show Inv.add L 48 7 = true from t7]; exact H)⟩⟩
      · show Sx.StepAt _ _ _ _ _ _ _ 49
        intro L A w up hun hd F ⟨v2, p7, H⟩
        have t7 : L 7 = true := by
          cases hb : L 7 with
          | true => rfl
          | false =>
            have hb8 := up 8 7 rfl hb
            have hb10 := up 10 8 rfl hb8
            have hb14 := up 14 10 rfl hb10
            have hb19 := up 19 14 rfl hb14
            have hb23 := up 23 19 rfl hb19
            have hb27 := up 27 23 rfl hb23
            have hb30 := up 30 27 rfl hb27
            have hb34 := up 34 30 rfl hb30
            have hb38 := up 38 34 rfl hb34
            have hb42 := up 42 38 rfl hb38
            have hb44 := up 44 42 rfl hb42
            have hb48 := up 48 44 rfl hb44
            rw [hd 48 rfl] at hb48; cases hb48
        rw [t7] at H
        have F := Sx.Fr.to F (kv' := [(99, .bool true)]) ⟨rfl, trivial⟩
        have F := Sx.Fr.add F (p7 t7)
        refine Sx.step_ong rfl (Sx.guard_known (d := 99) (b := true) F rfl rfl) rfl (Sx.d_build (qs := #[(0, .int .u64 1), (1, .int .u64 2)]) (v := .agg #[.int .u64 ((Wd.hi 18446744073709551618#128).toNat), .int .u64 ((Wd.lo 18446744073709551618#128).toNat)]) F rfl rfl (by kernel_rfl)) ?_
        rintro xv w' ⟨hx, rfl⟩
        exact ⟨(fun cv hc => hx.trans (Option.some.inj (Option.some.inj hc))), ⟨v2, (fun h => (Sx.put_ne rfl _).trans (p7 h)), (by show Sx.Own _ _ _ _; rw [show Inv.add L 49 7 = true from t7]; exact H)⟩⟩
      · show Sx.StepAt _ _ _ _ _ _ _ 50
        intro L A w up hun hd F ⟨v2, p7, H⟩
        have t7 : L 7 = true := by
          cases hb : L 7 with
          | true => rfl
          | false =>
            have hb8 := up 8 7 rfl hb
            have hb10 := up 10 8 rfl hb8
            have hb14 := up 14 10 rfl hb10
            have hb19 := up 19 14 rfl hb14
            have hb23 := up 23 19 rfl hb19
            have hb27 := up 27 23 rfl hb23
            have hb30 := up 30 27 rfl hb27
            have hb34 := up 34 30 rfl hb30
            have hb38 := up 38 34 rfl hb34
            have hb42 := up 42 38 rfl hb38
            have hb44 := up 44 42 rfl hb42
            have hb48 := up 48 44 rfl hb44
            rw [hd 48 rfl] at hb48; cases hb48
        rw [t7] at H
        have F := Sx.Fr.to F (kv' := [(100, .agg #[.int .u64 ((Wd.hi 18446744073709551618#128).toNat), .int .u64 ((Wd.lo 18446744073709551618#128).toNat)]), (99, .bool true)]) ⟨rfl, rfl, trivial⟩
        have F := Sx.Fr.add F (p7 t7)
        refine Sx.step_ong rfl (Sx.guard_known (d := 99) (b := true) F rfl rfl) rfl (Sx.d_build (qs := #[(0, .agg #[.int .u64 ((Wd.hi 18446744073709551618#128).toNat), .int .u64 ((Wd.lo 18446744073709551618#128).toNat)])]) (v := .agg #[.int .u64 ((Wd.hi 18446744073709551618#128).toNat), .int .u64 ((Wd.lo 18446744073709551618#128).toNat), .int .u64 ((Wd.hi 0#128).toNat), .int .u64 ((Wd.lo 0#128).toNat)]) F rfl rfl (by kernel_rfl)) ?_
        rintro xv w' ⟨hx, rfl⟩
        exact ⟨(fun cv hc => hx.trans (Option.some.inj (Option.some.inj hc))), ⟨v2, (fun h => (Sx.put_ne rfl _).trans (p7 h)), (by show Sx.Own _ _ _ _; rw [show Inv.add L 50 7 = true from t7]; exact H)⟩⟩
      · show Sx.StepAt _ _ _ _ _ _ _ 51
        intro L A w up hun hd F ⟨v2, p7, H⟩
        have t7 : L 7 = true := by
          cases hb : L 7 with
          | true => rfl
          | false =>
            have hb8 := up 8 7 rfl hb
            have hb10 := up 10 8 rfl hb8
            have hb14 := up 14 10 rfl hb10
            have hb19 := up 19 14 rfl hb14
            have hb23 := up 23 19 rfl hb19
            have hb27 := up 27 23 rfl hb23
            have hb30 := up 30 27 rfl hb27
            have hb34 := up 34 30 rfl hb30
            have hb38 := up 38 34 rfl hb34
            have hb42 := up 42 38 rfl hb38
            have hb44 := up 44 42 rfl hb42
            have hb48 := up 48 44 rfl hb44
            rw [hd 48 rfl] at hb48; cases hb48
        rw [t7] at H
        have F := Sx.Fr.to F (kv' := [(101, .agg #[.int .u64 ((Wd.hi 18446744073709551618#128).toNat), .int .u64 ((Wd.lo 18446744073709551618#128).toNat), .int .u64 ((Wd.hi 0#128).toNat), .int .u64 ((Wd.lo 0#128).toNat)]), (99, .bool true)]) ⟨rfl, rfl, trivial⟩
        have F := Sx.Fr.add F (p7 t7)
        refine Sx.step_ong rfl (Sx.guard_known (d := 99) (b := true) F rfl rfl) rfl (Sx.d_call (vs := [.agg #[.int .u64 ((Wd.hi 18446744073709551618#128).toNat), .int .u64 ((Wd.lo 18446744073709551618#128).toNat), .int .u64 ((Wd.hi 0#128).toNat), .int .u64 ((Wd.lo 0#128).toNat)]]) (v := .int .u64 ((Pc.word 18446744073709551618#128).toNat)) if_33 F H rfl rfl (pword_c 18446744073709551618#128 0#128 _)) ?_
        rintro xv w' ⟨hx, H⟩
        exact ⟨(fun cv hc => hx.trans (Option.some.inj (Option.some.inj hc))), ⟨v2, (fun h => (Sx.put_ne rfl _).trans (p7 h)), (by show Sx.Own _ _ _ _; rw [show Inv.add L 51 7 = true from t7]; exact H)⟩⟩
      · show Sx.StepAt _ _ _ _ _ _ _ 52
        intro L A w up hun hd F ⟨v2, p7, H⟩
        have t7 : L 7 = true := by
          cases hb : L 7 with
          | true => rfl
          | false =>
            have hb8 := up 8 7 rfl hb
            have hb10 := up 10 8 rfl hb8
            have hb14 := up 14 10 rfl hb10
            have hb19 := up 19 14 rfl hb14
            have hb23 := up 23 19 rfl hb19
            have hb27 := up 27 23 rfl hb23
            have hb30 := up 30 27 rfl hb27
            have hb34 := up 34 30 rfl hb30
            have hb38 := up 38 34 rfl hb34
            have hb42 := up 42 38 rfl hb38
            have hb44 := up 44 42 rfl hb42
            have hb48 := up 48 44 rfl hb44
            rw [hd 48 rfl] at hb48; cases hb48
        rw [t7] at H
        have F := Sx.Fr.to F (kv' := [(102, .int .u64 ((Pc.word 18446744073709551618#128).toNat)), (99, .bool true)]) ⟨rfl, rfl, trivial⟩
        have F := Sx.Fr.add F (p7 t7)
        refine Sx.step_ong rfl (Sx.guard_known (d := 99) (b := true) F rfl rfl) rfl (Sx.d_bin (v := .bool true) F rfl rfl rfl (Sx.i_eq (by kernel_rfl))) ?_
        rintro xv w' ⟨hx, rfl⟩
        exact ⟨(fun cv hc => hx.trans (Option.some.inj (Option.some.inj hc))), ⟨v2, (fun h => (Sx.put_ne rfl _).trans (p7 h)), (by show Sx.Own _ _ _ _; rw [show Inv.add L 52 7 = true from t7]; exact H)⟩⟩
      · show Sx.StepAt _ _ _ _ _ _ _ 53
        intro L A w up hun hd F ⟨v2, p7, H⟩
        have t7 : L 7 = true := by
          cases hb : L 7 with
          | true => rfl
          | false =>
            have hb8 := up 8 7 rfl hb
            have hb10 := up 10 8 rfl hb8
            have hb14 := up 14 10 rfl hb10
            have hb19 := up 19 14 rfl hb14
            have hb23 := up 23 19 rfl hb19
            have hb27 := up 27 23 rfl hb23
            have hb30 := up 30 27 rfl hb27
            have hb34 := up 34 30 rfl hb30
            have hb38 := up 38 34 rfl hb34
            have hb42 := up 42 38 rfl hb38
            have hb44 := up 44 42 rfl hb42
            have hb48 := up 48 44 rfl hb44
            rw [hd 48 rfl] at hb48; cases hb48
        rw [t7] at H
        have F := Sx.Fr.to F (kv' := [(99, .bool true), (103, .bool true)]) ⟨rfl, rfl, trivial⟩
        have F := Sx.Fr.add F (p7 t7)
        refine Sx.step_on rfl (Sx.d_pickT (v := .bool true) F rfl rfl rfl) ?_
        rintro xv w' ⟨hx, rfl⟩
        exact ⟨(fun cv hc => hx.trans (Option.some.inj (Option.some.inj hc))), ⟨v2, (fun h => (Sx.put_ne rfl _).trans (p7 h)), (by show Sx.Own _ _ _ _; rw [show Inv.add L 53 7 = true from t7]; exact H)⟩⟩
      · show Sx.StepAt _ _ _ _ _ _ _ 54
        intro L A w up hun hd F ⟨v2, p7, H⟩
        have t7 : L 7 = true := by
          cases hb : L 7 with
          | true => rfl
          | false =>
            have hb8 := up 8 7 rfl hb
            have hb10 := up 10 8 rfl hb8
            have hb14 := up 14 10 rfl hb10
            have hb19 := up 19 14 rfl hb14
            have hb23 := up 23 19 rfl hb19
            have hb27 := up 27 23 rfl hb23
            have hb30 := up 30 27 rfl hb27
            have hb34 := up 34 30 rfl hb30
            have hb38 := up 38 34 rfl hb34
            have hb42 := up 42 38 rfl hb38
            have hb44 := up 44 42 rfl hb42
            have hb48 := up 48 44 rfl hb44
            have hb51 := up 51 48 rfl hb48
            rw [hd 51 rfl] at hb51; cases hb51
        rw [t7] at H
        have F := Sx.Fr.to F (kv' := [(104, .bool true)]) ⟨rfl, trivial⟩
        have F := Sx.Fr.add F (p7 t7)
        refine Sx.step_on rfl (Sx.d_move F (Or.inl rfl) rfl) ?_
        rintro xv w' ⟨hx, rfl⟩
        exact ⟨(fun cv hc => hx.trans (Option.some.inj (Option.some.inj hc))), ⟨v2, (fun h => (Sx.put_ne rfl _).trans (p7 h)), (by show Sx.Own _ _ _ _; rw [show Inv.add L 54 7 = true from t7]; exact H)⟩⟩
      · show Sx.StepAt _ _ _ _ _ _ _ 55
        intro L A w up hun hd F ⟨v2, p7, H⟩
        have t7 : L 7 = true := by
          cases hb : L 7 with
          | true => rfl
          | false =>
            have hb8 := up 8 7 rfl hb
            have hb10 := up 10 8 rfl hb8
            have hb14 := up 14 10 rfl hb10
            have hb19 := up 19 14 rfl hb14
            have hb23 := up 23 19 rfl hb19
            have hb27 := up 27 23 rfl hb23
            have hb30 := up 30 27 rfl hb27
            have hb34 := up 34 30 rfl hb30
            have hb38 := up 38 34 rfl hb34
            have hb42 := up 42 38 rfl hb38
            have hb44 := up 44 42 rfl hb42
            have hb48 := up 48 44 rfl hb44
            have hb51 := up 51 48 rfl hb48
            have hb54 := up 54 51 rfl hb51
            rw [hd 54 rfl] at hb54; cases hb54
        rw [t7] at H
        have F := Sx.Fr.to F (kv' := [(1, .pointer (some ⟨g1, 0, none⟩)), (105, .bool true)]) ⟨rfl, rfl, trivial⟩
        have F := Sx.Fr.add F (p7 t7)
        refine Sx.step_ong rfl (Sx.guard_known (d := 105) (b := true) F rfl rfl) rfl (Sx.d_load (i := 5) (xs := [.int .u64 ((Wd.hi 0#128).toNat), .int .u64 ((Wd.lo 0#128).toNat), .int .u64 ((Wd.hi 1#128).toNat), .int .u64 ((Wd.lo 1#128).toNat)]) rw_57 F H rfl rfl rfl rfl rfl) ?_
        rintro xv w' ⟨hx, rfl⟩
        exact ⟨(fun cv hc => hx.trans (Option.some.inj (Option.some.inj hc))), ⟨v2, (fun h => (Sx.put_ne rfl _).trans (p7 h)), (by show Sx.Own _ _ _ _; rw [show Inv.add L 55 7 = true from t7]; exact H)⟩⟩
      · show Sx.StepAt _ _ _ _ _ _ _ 56
        intro L A w up hun hd F ⟨v2, p7, H⟩
        have t7 : L 7 = true := by
          cases hb : L 7 with
          | true => rfl
          | false =>
            have hb8 := up 8 7 rfl hb
            have hb10 := up 10 8 rfl hb8
            have hb14 := up 14 10 rfl hb10
            have hb19 := up 19 14 rfl hb14
            have hb23 := up 23 19 rfl hb19
            have hb27 := up 27 23 rfl hb23
            have hb30 := up 30 27 rfl hb27
            have hb34 := up 34 30 rfl hb30
            have hb38 := up 38 34 rfl hb34
            have hb42 := up 42 38 rfl hb38
            have hb44 := up 44 42 rfl hb42
            have hb48 := up 48 44 rfl hb44
            have hb51 := up 51 48 rfl hb48
            have hb54 := up 54 51 rfl hb51
            rw [hd 54 rfl] at hb54; cases hb54
        rw [t7] at H
        have F := Sx.Fr.to F (kv' := [(106, .agg #[.int .u64 ((Wd.hi 0#128).toNat), .int .u64 ((Wd.lo 0#128).toNat), .int .u64 ((Wd.hi 1#128).toNat), .int .u64 ((Wd.lo 1#128).toNat)]), (105, .bool true)]) ⟨rfl, rfl, trivial⟩
        have F := Sx.Fr.add F (p7 t7)
        refine Sx.step_ong rfl (Sx.guard_known (d := 105) (b := true) F rfl rfl) rfl (Sx.d_call (vs := [.agg #[.int .u64 ((Wd.hi 0#128).toNat), .int .u64 ((Wd.lo 0#128).toNat), .int .u64 ((Wd.hi 1#128).toNat), .int .u64 ((Wd.lo 1#128).toNat)]]) (v := .bool true) if_38 F H rfl rfl (Calls.val (pright_c 0#128 1#128 _) rfl (congrArg Value.bool (by kernel_rfl)))) ?_
        rintro xv w' ⟨hx, H⟩
        exact ⟨(fun cv hc => hx.trans (Option.some.inj (Option.some.inj hc))), ⟨v2, (fun h => (Sx.put_ne rfl _).trans (p7 h)), (by show Sx.Own _ _ _ _; rw [show Inv.add L 56 7 = true from t7]; exact H)⟩⟩
      · show Sx.StepAt _ _ _ _ _ _ _ 57
        intro L A w up hun hd F ⟨v2, p7, H⟩
        have t7 : L 7 = true := by
          cases hb : L 7 with
          | true => rfl
          | false =>
            have hb8 := up 8 7 rfl hb
            have hb10 := up 10 8 rfl hb8
            have hb14 := up 14 10 rfl hb10
            have hb19 := up 19 14 rfl hb14
            have hb23 := up 23 19 rfl hb19
            have hb27 := up 27 23 rfl hb23
            have hb30 := up 30 27 rfl hb27
            have hb34 := up 34 30 rfl hb30
            have hb38 := up 38 34 rfl hb34
            have hb42 := up 42 38 rfl hb38
            have hb44 := up 44 42 rfl hb42
            have hb48 := up 48 44 rfl hb44
            have hb51 := up 51 48 rfl hb48
            have hb54 := up 54 51 rfl hb51
            rw [hd 54 rfl] at hb54; cases hb54
        rw [t7] at H
        have F := Sx.Fr.to F (kv' := [(105, .bool true), (107, .bool true)]) ⟨rfl, rfl, trivial⟩
        have F := Sx.Fr.add F (p7 t7)
        refine Sx.step_on rfl (Sx.d_pickT (v := .bool true) F rfl rfl rfl) ?_
        rintro xv w' ⟨hx, rfl⟩
        exact ⟨(fun cv hc => hx.trans (Option.some.inj (Option.some.inj hc))), ⟨v2, (fun h => (Sx.put_ne rfl _).trans (p7 h)), (by show Sx.Own _ _ _ _; rw [show Inv.add L 57 7 = true from t7]; exact H)⟩⟩
      · show Sx.StepAt _ _ _ _ _ _ _ 58
        intro L A w up hun hd F ⟨v2, p7, H⟩
        have t7 : L 7 = true := by
          cases hb : L 7 with
          | true => rfl
          | false =>
            have hb8 := up 8 7 rfl hb
            have hb10 := up 10 8 rfl hb8
            have hb14 := up 14 10 rfl hb10
            have hb19 := up 19 14 rfl hb14
            have hb23 := up 23 19 rfl hb19
            have hb27 := up 27 23 rfl hb23
            have hb30 := up 30 27 rfl hb27
            have hb34 := up 34 30 rfl hb30
            have hb38 := up 38 34 rfl hb34
            have hb42 := up 42 38 rfl hb38
            have hb44 := up 44 42 rfl hb42
            have hb48 := up 48 44 rfl hb44
            have hb51 := up 51 48 rfl hb48
            have hb54 := up 54 51 rfl hb51
            have hb56 := up 56 54 rfl hb54
            rw [hd 56 rfl] at hb56; cases hb56
        rw [t7] at H
        have F := Sx.Fr.to F (kv' := [(108, .bool true)]) ⟨rfl, trivial⟩
        have F := Sx.Fr.add F (p7 t7)
        refine Sx.step_on rfl (Sx.d_move F (Or.inl rfl) rfl) ?_
        rintro xv w' ⟨hx, rfl⟩
        exact ⟨(fun cv hc => hx.trans (Option.some.inj (Option.some.inj hc))), ⟨v2, (fun h => (Sx.put_ne rfl _).trans (p7 h)), (by show Sx.Own _ _ _ _; rw [show Inv.add L 58 7 = true from t7]; exact H)⟩⟩
      · show Sx.StepAt _ _ _ _ _ _ _ 59
        intro L A w up hun hd F ⟨v2, p7, H⟩
        have t7 : L 7 = true := by
          cases hb : L 7 with
          | true => rfl
          | false =>
            have hb8 := up 8 7 rfl hb
            have hb10 := up 10 8 rfl hb8
            have hb14 := up 14 10 rfl hb10
            have hb19 := up 19 14 rfl hb14
            have hb23 := up 23 19 rfl hb19
            have hb27 := up 27 23 rfl hb23
            have hb30 := up 30 27 rfl hb27
            have hb34 := up 34 30 rfl hb30
            have hb38 := up 38 34 rfl hb34
            have hb42 := up 42 38 rfl hb38
            have hb44 := up 44 42 rfl hb42
            have hb48 := up 48 44 rfl hb44
            have hb51 := up 51 48 rfl hb48
            have hb54 := up 54 51 rfl hb51
            have hb56 := up 56 54 rfl hb54
            have hb58 := up 58 56 rfl hb56
            rw [hd 58 rfl] at hb58; cases hb58
        rw [t7] at H
        have F := Sx.Fr.to F (kv' := [(1, .pointer (some ⟨g1, 0, none⟩)), (109, .bool true)]) ⟨rfl, rfl, trivial⟩
        have F := Sx.Fr.add F (p7 t7)
        refine Sx.step_ong rfl (Sx.guard_known (d := 109) (b := true) F rfl rfl) rfl (Sx.d_load (i := 5) (xs := [.int .u64 ((Wd.hi 0#128).toNat), .int .u64 ((Wd.lo 0#128).toNat), .int .u64 ((Wd.hi 1#128).toNat), .int .u64 ((Wd.lo 1#128).toNat)]) rw_57 F H rfl rfl rfl rfl rfl) ?_
        rintro xv w' ⟨hx, rfl⟩
        exact ⟨(fun cv hc => hx.trans (Option.some.inj (Option.some.inj hc))), ⟨v2, (fun h => (Sx.put_ne rfl _).trans (p7 h)), (by show Sx.Own _ _ _ _; rw [show Inv.add L 59 7 = true from t7]; exact H)⟩⟩
      · show Sx.StepAt _ _ _ _ _ _ _ 60
        intro L A w up hun hd F ⟨v2, p7, H⟩
        have t7 : L 7 = true := by
          cases hb : L 7 with
          | true => rfl
          | false =>
            have hb8 := up 8 7 rfl hb
            have hb10 := up 10 8 rfl hb8
            have hb14 := up 14 10 rfl hb10
            have hb19 := up 19 14 rfl hb14
            have hb23 := up 23 19 rfl hb19
            have hb27 := up 27 23 rfl hb23
            have hb30 := up 30 27 rfl hb27
            have hb34 := up 34 30 rfl hb30
            have hb38 := up 38 34 rfl hb34
            have hb42 := up 42 38 rfl hb38
            have hb44 := up 44 42 rfl hb42
            have hb48 := up 48 44 rfl hb44
            have hb51 := up 51 48 rfl hb48
            have hb54 := up 54 51 rfl hb51
            have hb56 := up 56 54 rfl hb54
            have hb58 := up 58 56 rfl hb56
            rw [hd 58 rfl] at hb58; cases hb58
        rw [t7] at H
        have F := Sx.Fr.to F (kv' := [(110, .agg #[.int .u64 ((Wd.hi 0#128).toNat), .int .u64 ((Wd.lo 0#128).toNat), .int .u64 ((Wd.hi 1#128).toNat), .int .u64 ((Wd.lo 1#128).toNat)]), (109, .bool true)]) ⟨rfl, rfl, trivial⟩
        have F := Sx.Fr.add F (p7 t7)
        refine Sx.step_ong rfl (Sx.guard_known (d := 109) (b := true) F rfl rfl) rfl (Sx.d_call (vs := [.agg #[.int .u64 ((Wd.hi 0#128).toNat), .int .u64 ((Wd.lo 0#128).toNat), .int .u64 ((Wd.hi 1#128).toNat), .int .u64 ((Wd.lo 1#128).toNat)]]) (v := .agg #[.int .u64 ((Wd.hi 15750249268501108917#128).toNat), .int .u64 ((Wd.lo 15750249268501108917#128).toNat), .int .u64 ((Wd.hi 1#128).toNat), .int .u64 ((Wd.lo 1#128).toNat)]) if_44 F H rfl rfl (pmap_c 0#128 1#128 _)) ?_
        rintro xv w' ⟨hx, H⟩
        exact ⟨(fun cv hc => hx.trans (Option.some.inj (Option.some.inj hc))), ⟨v2, (fun h => (Sx.put_ne rfl _).trans (p7 h)), (by show Sx.Own _ _ _ _; rw [show Inv.add L 60 7 = true from t7]; exact H)⟩⟩
      · show Sx.StepAt _ _ _ _ _ _ _ 61
        intro L A w up hun hd F ⟨v2, p7, H⟩
        have t7 : L 7 = true := by
          cases hb : L 7 with
          | true => rfl
          | false =>
            have hb8 := up 8 7 rfl hb
            have hb10 := up 10 8 rfl hb8
            have hb14 := up 14 10 rfl hb10
            have hb19 := up 19 14 rfl hb14
            have hb23 := up 23 19 rfl hb19
            have hb27 := up 27 23 rfl hb23
            have hb30 := up 30 27 rfl hb27
            have hb34 := up 34 30 rfl hb30
            have hb38 := up 38 34 rfl hb34
            have hb42 := up 42 38 rfl hb38
            have hb44 := up 44 42 rfl hb42
            have hb48 := up 48 44 rfl hb44
            have hb51 := up 51 48 rfl hb48
            have hb54 := up 54 51 rfl hb51
            have hb56 := up 56 54 rfl hb54
            have hb58 := up 58 56 rfl hb56
            rw [hd 58 rfl] at hb58; cases hb58
        rw [t7] at H
        have F := Sx.Fr.to F (kv' := [(109, .bool true)]) ⟨rfl, trivial⟩
        have F := Sx.Fr.add F (p7 t7)
        refine Sx.step_ong rfl (Sx.guard_known (d := 109) (b := true) F rfl rfl) rfl (Sx.d_call (vs := [.int .u64 15750249268501108917]) (v := .agg #[.int .u64 ((Wd.hi 15750249268501108917#128).toNat), .int .u64 ((Wd.lo 15750249268501108917#128).toNat)]) if_29 F H rfl rfl (Calls.val (wofV_c 15750249268501108917#64 _) (by kernel_rfl) (by kernel_rfl))) ?_
        rintro xv w' ⟨hx, H⟩
        exact ⟨(fun cv hc => hx.trans (Option.some.inj (Option.some.inj hc))), ⟨v2, (fun h => (Sx.put_ne rfl _).trans (p7 h)), (by show Sx.Own _ _ _ _; rw [show Inv.add L 61 7 = true from t7]; exact H)⟩⟩
      · show Sx.StepAt _ _ _ _ _ _ _ 62
        intro L A w up hun hd F ⟨v2, p7, H⟩
        have t7 : L 7 = true := by
          cases hb : L 7 with
          | true => rfl
          | false =>
            have hb8 := up 8 7 rfl hb
            have hb10 := up 10 8 rfl hb8
            have hb14 := up 14 10 rfl hb10
            have hb19 := up 19 14 rfl hb14
            have hb23 := up 23 19 rfl hb19
            have hb27 := up 27 23 rfl hb23
            have hb30 := up 30 27 rfl hb27
            have hb34 := up 34 30 rfl hb30
            have hb38 := up 38 34 rfl hb34
            have hb42 := up 42 38 rfl hb38
            have hb44 := up 44 42 rfl hb42
            have hb48 := up 48 44 rfl hb44
            have hb51 := up 51 48 rfl hb48
            have hb54 := up 54 51 rfl hb51
            have hb56 := up 56 54 rfl hb54
            have hb58 := up 58 56 rfl hb56
            rw [hd 58 rfl] at hb58; cases hb58
        rw [t7] at H
        have F := Sx.Fr.to F (kv' := [(109, .bool true)]) ⟨rfl, trivial⟩
        have F := Sx.Fr.add F (p7 t7)
        refine Sx.step_ong rfl (Sx.guard_known (d := 109) (b := true) F rfl rfl) rfl (Sx.d_call (vs := [.int .u64 1]) (v := .agg #[.int .u64 ((Wd.hi 1#128).toNat), .int .u64 ((Wd.lo 1#128).toNat)]) if_29 F H rfl rfl (Calls.val (wofV_c 1#64 _) (by kernel_rfl) (by kernel_rfl))) ?_
        rintro xv w' ⟨hx, H⟩
        exact ⟨(fun cv hc => hx.trans (Option.some.inj (Option.some.inj hc))), ⟨v2, (fun h => (Sx.put_ne rfl _).trans (p7 h)), (by show Sx.Own _ _ _ _; rw [show Inv.add L 62 7 = true from t7]; exact H)⟩⟩
      · show Sx.StepAt _ _ _ _ _ _ _ 63
        intro L A w up hun hd F ⟨v2, p7, H⟩
        have t7 : L 7 = true := by
          cases hb : L 7 with
          | true => rfl
          | false =>
            have hb8 := up 8 7 rfl hb
            have hb10 := up 10 8 rfl hb8
            have hb14 := up 14 10 rfl hb10
            have hb19 := up 19 14 rfl hb14
            have hb23 := up 23 19 rfl hb19
            have hb27 := up 27 23 rfl hb23
            have hb30 := up 30 27 rfl hb27
            have hb34 := up 34 30 rfl hb30
            have hb38 := up 38 34 rfl hb34
            have hb42 := up 42 38 rfl hb38
            have hb44 := up 44 42 rfl hb42
            have hb48 := up 48 44 rfl hb44
            have hb51 := up 51 48 rfl hb48
            have hb54 := up 54 51 rfl hb51
            have hb56 := up 56 54 rfl hb54
            have hb58 := up 58 56 rfl hb56
            rw [hd 58 rfl] at hb58; cases hb58
        rw [t7] at H
        have F := Sx.Fr.to F (kv' := [(112, .agg #[.int .u64 ((Wd.hi 15750249268501108917#128).toNat), .int .u64 ((Wd.lo 15750249268501108917#128).toNat)]), (113, .agg #[.int .u64 ((Wd.hi 1#128).toNat), .int .u64 ((Wd.lo 1#128).toNat)]), (109, .bool true)]) ⟨rfl, rfl, rfl, trivial⟩
        have F := Sx.Fr.add F (p7 t7)
        refine Sx.step_ong rfl (Sx.guard_known (d := 109) (b := true) F rfl rfl) rfl (Sx.d_build (qs := #[(0, .agg #[.int .u64 ((Wd.hi 15750249268501108917#128).toNat), .int .u64 ((Wd.lo 15750249268501108917#128).toNat)]), (1, .agg #[.int .u64 ((Wd.hi 1#128).toNat), .int .u64 ((Wd.lo 1#128).toNat)])]) (v := .agg #[.int .u64 ((Wd.hi 15750249268501108917#128).toNat), .int .u64 ((Wd.lo 15750249268501108917#128).toNat), .int .u64 ((Wd.hi 1#128).toNat), .int .u64 ((Wd.lo 1#128).toNat)]) F rfl rfl (by kernel_rfl)) ?_
        rintro xv w' ⟨hx, rfl⟩
        exact ⟨(fun cv hc => hx.trans (Option.some.inj (Option.some.inj hc))), ⟨v2, (fun h => (Sx.put_ne rfl _).trans (p7 h)), (by show Sx.Own _ _ _ _; rw [show Inv.add L 63 7 = true from t7]; exact H)⟩⟩
      · show Sx.StepAt _ _ _ _ _ _ _ 64
        intro L A w up hun hd F ⟨v2, p7, H⟩
        have t7 : L 7 = true := by
          cases hb : L 7 with
          | true => rfl
          | false =>
            have hb8 := up 8 7 rfl hb
            have hb10 := up 10 8 rfl hb8
            have hb14 := up 14 10 rfl hb10
            have hb19 := up 19 14 rfl hb14
            have hb23 := up 23 19 rfl hb19
            have hb27 := up 27 23 rfl hb23
            have hb30 := up 30 27 rfl hb27
            have hb34 := up 34 30 rfl hb30
            have hb38 := up 38 34 rfl hb34
            have hb42 := up 42 38 rfl hb38
            have hb44 := up 44 42 rfl hb42
            have hb48 := up 48 44 rfl hb44
            have hb51 := up 51 48 rfl hb48
            have hb54 := up 54 51 rfl hb51
            have hb56 := up 56 54 rfl hb54
            have hb58 := up 58 56 rfl hb56
            rw [hd 58 rfl] at hb58; cases hb58
        rw [t7] at H
        have F := Sx.Fr.to F (kv' := [(111, .agg #[.int .u64 ((Wd.hi 15750249268501108917#128).toNat), .int .u64 ((Wd.lo 15750249268501108917#128).toNat), .int .u64 ((Wd.hi 1#128).toNat), .int .u64 ((Wd.lo 1#128).toNat)]), (114, .agg #[.int .u64 ((Wd.hi 15750249268501108917#128).toNat), .int .u64 ((Wd.lo 15750249268501108917#128).toNat), .int .u64 ((Wd.hi 1#128).toNat), .int .u64 ((Wd.lo 1#128).toNat)]), (109, .bool true)]) ⟨rfl, rfl, rfl, trivial⟩
        have F := Sx.Fr.add F (p7 t7)
        refine Sx.step_ong rfl (Sx.guard_known (d := 109) (b := true) F rfl rfl) rfl (Sx.d_bin (v := .bool true) F rfl rfl rfl (Sx.i_eqM (Sx.eqbM_true rfl rfl))) ?_
        rintro xv w' ⟨hx, rfl⟩
        exact ⟨(fun cv hc => hx.trans (Option.some.inj (Option.some.inj hc))), ⟨v2, (fun h => (Sx.put_ne rfl _).trans (p7 h)), (by show Sx.Own _ _ _ _; rw [show Inv.add L 64 7 = true from t7]; exact H)⟩⟩
      · show Sx.StepAt _ _ _ _ _ _ _ 65
        intro L A w up hun hd F ⟨v2, p7, H⟩
        have t7 : L 7 = true := by
          cases hb : L 7 with
          | true => rfl
          | false =>
            have hb8 := up 8 7 rfl hb
            have hb10 := up 10 8 rfl hb8
            have hb14 := up 14 10 rfl hb10
            have hb19 := up 19 14 rfl hb14
            have hb23 := up 23 19 rfl hb19
            have hb27 := up 27 23 rfl hb23
            have hb30 := up 30 27 rfl hb27
            have hb34 := up 34 30 rfl hb30
            have hb38 := up 38 34 rfl hb34
            have hb42 := up 42 38 rfl hb38
            have hb44 := up 44 42 rfl hb42
            have hb48 := up 48 44 rfl hb44
            have hb51 := up 51 48 rfl hb48
            have hb54 := up 54 51 rfl hb51
            have hb56 := up 56 54 rfl hb54
            have hb58 := up 58 56 rfl hb56
            rw [hd 58 rfl] at hb58; cases hb58
        rw [t7] at H
        have F := Sx.Fr.to F (kv' := [(109, .bool true), (115, .bool true)]) ⟨rfl, rfl, trivial⟩
        have F := Sx.Fr.add F (p7 t7)
        refine Sx.step_on rfl (Sx.d_pickT (v := .bool true) F rfl rfl rfl) ?_
        rintro xv w' ⟨hx, rfl⟩
        exact ⟨(fun cv hc => hx.trans (Option.some.inj (Option.some.inj hc))), ⟨v2, (fun h => (Sx.put_ne rfl _).trans (p7 h)), (by show Sx.Own _ _ _ _; rw [show Inv.add L 65 7 = true from t7]; exact H)⟩⟩
      · show Sx.StepAt _ _ _ _ _ _ _ 66
        intro L A w up hun hd F ⟨v2, p7, H⟩
        have t7 : L 7 = true := hd 7 rfl
        rw [t7] at H
        have F := Sx.Fr.to F (kv' := [(116, .bool true)]) ⟨rfl, trivial⟩
        have F := Sx.Fr.add F (p7 t7)
        refine Sx.step_on rfl (Sx.d_move F (Or.inr rfl) rfl) ?_
        rintro xv w' ⟨hx, rfl⟩
        exact ⟨(fun cv hc => hx.trans (Option.some.inj (Option.some.inj hc))), ⟨v2, (fun h => (Sx.put_ne rfl _).trans (p7 h)), (by show Sx.Own _ _ _ _; rw [show Inv.add L 66 7 = true from t7]; exact H)⟩⟩
    · intro L A w hL F ⟨v2, p7, H⟩
      have t7 : L 7 = true := hL 7 rfl
      rw [t7] at H
      have F := Sx.Fr.add F (p7 t7)
      have F := Sx.Fr.to F (kv' := [(16, .agg #[.int .u64 ((Wd.hi 1#128).toNat), .int .u64 ((Wd.lo 1#128).toNat)]), (17, .agg #[.int .u64 ((Wd.hi 0#128).toNat), .int .u64 ((Wd.lo 0#128).toNat), .int .u64 ((Wd.hi 1#128).toNat), .int .u64 ((Wd.lo 1#128).toNat)]), (1, .pointer (some ⟨g1, 0, none⟩)), (18, .agg #[.int .u64 ((Wd.hi 0#128).toNat), .int .u64 ((Wd.lo 0#128).toNat), .int .u64 ((Wd.hi 1#128).toNat), .int .u64 ((Wd.lo 1#128).toNat)]), (19, .agg #[.int .u64 ((Wd.hi ((Pc.step ⟨0#128, 1#128⟩).s)).toNat), .int .u64 ((Wd.lo ((Pc.step ⟨0#128, 1#128⟩).s)).toNat), .int .u64 ((Wd.hi 1#128).toNat), .int .u64 ((Wd.lo 1#128).toNat)]), (2, .pointer (some ⟨g2, 0, none⟩)), (21, .agg #[.int .u64 ((Wd.hi 0#128).toNat), .int .u64 ((Wd.lo 0#128).toNat), .int .u64 ((Wd.hi 1#128).toNat), .int .u64 ((Wd.lo 1#128).toNat)]), (22, .tuple #[v1, .agg #[.int .u64 ((Wd.hi (Pc.its 1#128 2 0#128)).toNat), .int .u64 ((Wd.lo (Pc.its 1#128 2 0#128)).toNat), .int .u64 ((Wd.hi 1#128).toNat), .int .u64 ((Wd.lo 1#128).toNat)], .int .i64 0]), (20, .tuple #[v1, .agg #[.int .u64 ((Wd.hi (Pc.its 1#128 2 0#128)).toNat), .int .u64 ((Wd.lo (Pc.its 1#128 2 0#128)).toNat), .int .u64 ((Wd.hi 1#128).toNat), .int .u64 ((Wd.lo 1#128).toNat)], .int .i64 0]), (23, v1), (24, .agg #[.int .u64 ((Wd.hi (Pc.its 1#128 2 0#128)).toNat), .int .u64 ((Wd.lo (Pc.its 1#128 2 0#128)).toNat), .int .u64 ((Wd.hi 1#128).toNat), .int .u64 ((Wd.lo 1#128).toNat)]), (25, .int .i64 0), (4, .pointer (some ⟨g3, 0, none⟩)), (27, .agg #[.int .u64 ((Wd.hi 0#128).toNat), .int .u64 ((Wd.lo 0#128).toNat), .int .u64 ((Wd.hi 0#128).toNat), .int .u64 ((Wd.lo 0#128).toNat)]), (28, .tuple #[.slice none 0 0, .agg #[.int .u64 ((Wd.hi 0#128).toNat), .int .u64 ((Wd.lo 0#128).toNat), .int .u64 ((Wd.hi 0#128).toNat), .int .u64 ((Wd.lo 0#128).toNat)], .int .i64 3]), (26, .tuple #[.slice none 0 0, .agg #[.int .u64 ((Wd.hi 0#128).toNat), .int .u64 ((Wd.lo 0#128).toNat), .int .u64 ((Wd.hi 0#128).toNat), .int .u64 ((Wd.lo 0#128).toNat)], .int .i64 3]), (29, .slice none 0 0), (30, .agg #[.int .u64 ((Wd.hi 0#128).toNat), .int .u64 ((Wd.lo 0#128).toNat), .int .u64 ((Wd.hi 0#128).toNat), .int .u64 ((Wd.lo 0#128).toNat)]), (31, .int .i64 3), (7, .pointer (some ⟨g4, 0, none⟩)), (33, .agg #[.int .u64 ((Wd.hi 0#128).toNat), .int .u64 ((Wd.lo 0#128).toNat), .int .u64 ((Wd.hi 1#128).toNat), .int .u64 ((Wd.lo 1#128).toNat)]), (34, .tuple #[.slice none 0 0, .agg #[.int .u64 ((Wd.hi 0#128).toNat), .int .u64 ((Wd.lo 0#128).toNat), .int .u64 ((Wd.hi 0#128).toNat), .int .u64 ((Wd.lo 0#128).toNat)], .int .i64 1]), (32, .tuple #[.slice none 0 0, .agg #[.int .u64 ((Wd.hi 0#128).toNat), .int .u64 ((Wd.lo 0#128).toNat), .int .u64 ((Wd.hi 0#128).toNat), .int .u64 ((Wd.lo 0#128).toNat)], .int .i64 1]), (35, .slice none 0 0), (36, .agg #[.int .u64 ((Wd.hi 0#128).toNat), .int .u64 ((Wd.lo 0#128).toNat), .int .u64 ((Wd.hi 0#128).toNat), .int .u64 ((Wd.lo 0#128).toNat)]), (37, .int .i64 1), (10, .pointer (some ⟨g5, 0, none⟩)), (12, .pointer (some ⟨g6, 0, none⟩)), (45, .agg #[.int .u64 ((Wd.hi 4#128).toNat), .int .u64 ((Wd.lo 4#128).toNat)]), (46, .agg #[.int .u64 ((Wd.hi 0#128).toNat), .int .u64 ((Wd.lo 0#128).toNat), .int .u64 ((Wd.hi 4#128).toNat), .int .u64 ((Wd.lo 4#128).toNat)]), (47, .agg #[.int .u64 ((Wd.hi 2#128).toNat), .int .u64 ((Wd.lo 2#128).toNat)]), (48, .tuple #[.agg #[.int .u64 ((Wd.hi 0#128).toNat), .int .u64 ((Wd.lo 0#128).toNat), .int .u64 ((Wd.hi 0#128).toNat), .int .u64 ((Wd.lo 0#128).toNat)], .int .i64 3]), (44, .tuple #[.agg #[.int .u64 ((Wd.hi 0#128).toNat), .int .u64 ((Wd.lo 0#128).toNat), .int .u64 ((Wd.hi 0#128).toNat), .int .u64 ((Wd.lo 0#128).toNat)], .int .i64 3]), (49, .agg #[.int .u64 ((Wd.hi 0#128).toNat), .int .u64 ((Wd.lo 0#128).toNat), .int .u64 ((Wd.hi 0#128).toNat), .int .u64 ((Wd.lo 0#128).toNat)]), (50, .int .i64 3), (14, .pointer (some ⟨g7, 0, none⟩)), (0, .bool true)]) ⟨rfl, rfl, rfl, rfl, rfl, rfl, rfl, rfl, rfl, rfl, rfl, rfl, rfl, rfl, rfl, rfl, rfl, rfl, rfl, rfl, rfl, rfl, rfl, rfl, rfl, rfl, rfl, rfl, rfl, rfl, rfl, rfl, rfl, rfl, rfl, rfl, rfl, trivial⟩
      refine hK9 _ _ ?_
      refine wp_ret ?_
      try dsimp only [Exit.then, Exit.inBlock, Exit.jump]
      refine Sx.ret1 F Try.results32 (Sx.res_tmp (v := .bool true) F rfl) ⟨?_, H.below⟩
      rfl
end Go.Proofs.Ytpbdffmgendboaa
