/- The reference's Left, Bit walked. -/
import Derived.Test.YtpbdffmgendboabSl6
import Derived.Test.YtpbdffmgendboabWo
namespace Go.Proofs.Ytpbdffmgendboab
open Go Go.RowKit
theorem Bi.snoc0 (k : Nat) : Bi.bis (fun _ => false) (k + 1) = Bi.bis (fun _ => false) k ++ [.int .i64 0] := by rw [Bi.snoc]; rfl
set_option maxRecDepth 100000 in
theorem rleft_c (x : BitVec 128) (sh : Int) (T : Nat) (hT : T = min sh.toNat 128) (w0 : World) : Calls Try.prog 29 #[.agg #[.int .u64 ((Wd.hi x).toNat), .int .u64 ((Wd.lo x).toNat)], .int .i64 sh] w0 fun e w' => e = .returned (.agg #[.int .u64 ((Wd.hi (x <<< T)).toNat), .int .u64 ((Wd.lo (x <<< T)).toNat)]) ∧ Below w0.heap.size w0 w' := by
  refine Sx.enter (args := [.agg #[.int .u64 ((Wd.hi x).toNat), .int .u64 ((Wd.lo x).toNat)], .int .i64 sh]) Try.func29 rfl Try.ntmps29 (Nat.le_of_ble_eq_true rfl) (fun A F => ?_)
  have H := Sx.Own.start w0
  refine Sx.seq (fun K1 hK1 => ?_)
  refine Sx.plain ?_
  refine Sx.sb F (Sx.d_box F H rfl rfl [.int .u64 ((Wd.hi x).toNat), .int .u64 ((Wd.lo x).toNat)] rfl) (Sx.wanted_none rfl _) rfl (by decide) (fun g1 A w F H => ?_)
  refine Sx.sb F (Sx.d_alloc H rfl [.int .u64 ((Wd.hi 0#128).toNat), .int .u64 ((Wd.lo 0#128).toNat)] zero_43) (Sx.wanted_none rfl _) rfl (by decide) (fun g2 A w F H => ?_)
  refine Sx.nil ?_
  refine hK1 _ _ ?_
  refine Sx.seq (fun K2 hK2 => ?_)
  refine Sx.plain ?_
  refine Sx.sr (mk := fun v => v) F (Sx.d_litR (qs := #[]) (cs := #[]) (E := 3) (z := 1) F H rfl rfl (fun _ => by kernel_rfl) rfl (by decide)) (Sx.wanted_none rfl _) rfl (by decide) (fun v1 A w F (H : Sx.Own w0 _ [(true, g2, [.int .u64 ((Wd.hi 0#128).toNat), .int .u64 ((Wd.lo 0#128).toNat)]), (true, g1, [.int .u64 ((Wd.hi x).toNat), .int .u64 ((Wd.lo x).toNat)])] [⟨true, v1, 3, 1, 0, []⟩]) => ?_)
  refine Sx.sv F (Sx.d_move F (Or.inr rfl) rfl) (Sx.wanted_none rfl _) rfl (by decide) (fun A F => ?_)
  refine Sx.nil ?_
  refine hK2 _ _ ?_
  refine Sx.seq (fun K3 hK3 => ?_)
  refine Sx.seq (fun K4 hK4 => ?_)
  refine Sx.plain ?_
  refine Sx.sv F (Sx.d_move F (Or.inr rfl) rfl) (Sx.wanted_none rfl _) rfl (by decide) (fun A F => ?_)
  refine Sx.nil ?_
  refine hK4 _ _ ?_
  refine wp_block ?_
  have F := Sx.Fr.to F (kv' := [(1, .int .i64 sh), (2, .pointer (some ⟨g1, 0, none⟩)), (4, .pointer (some ⟨g2, 0, none⟩)), (5, v1), (6, .int .i64 (0 : Nat))]) ⟨rfl, rfl, rfl, rfl, rfl, trivial⟩
  refine Sx.loop (fun q A w => ∃ (i : Nat) (v : Value), q = T - i ∧ i ≤ T ∧ Sx.Fr 27 A [(1, .int .i64 sh), (2, .pointer (some ⟨g1, 0, none⟩)), (4, .pointer (some ⟨g2, 0, none⟩)), (5, v), (6, .int .i64 i)] ∧ Sx.Own w0 w [(true, g2, [.int .u64 ((Wd.hi 0#128).toNat), .int .u64 ((Wd.lo 0#128).toNat)]), (true, g1, [.int .u64 ((Wd.hi x).toNat), .int .u64 ((Wd.lo x).toNat)])] [⟨true, v, 3, 1, i, (Bi.bis (fun _ => false) i)⟩]) T ⟨0, v1, rfl, Nat.zero_le _, F, H⟩ ?_
  rintro q A w ⟨i, v, rfl, hi, F, H⟩
  by_cases hlt : i < T
  · skip
    refine Sx.seq (fun K5 hK5 => ?_)
    refine Sx.seq (fun K6 hK6 => ?_)
    refine Sx.plain ?_
    refine Sx.sv F (Sx.d_move F (Or.inl rfl) rfl) (Sx.wanted_none rfl _) rfl (by decide) (fun A F => ?_)
    refine Sx.sv F (Sx.d_move F (Or.inl rfl) rfl) (Sx.wanted_none rfl _) rfl (by decide) (fun A F => ?_)
    refine Sx.sv F (Sx.d_bin (v := .bool true) F rfl rfl rfl (Sx.i_lt (decide_eq_true (by omega)))) (Sx.wanted_none rfl _) rfl (by decide) (fun A F => ?_)
    refine Sx.sv F (Sx.d_move F (Or.inl rfl) rfl) (Sx.wanted_none rfl _) rfl (by decide) (fun A F => ?_)
    refine Sx.sv F (Sx.d_move F (Or.inl rfl) rfl) (Sx.wanted_on rfl (Sx.guard_known (d := 11) (b := true) F rfl rfl) rfl) rfl (by decide) (fun A F => ?_)
    refine Sx.sv F (Sx.d_bin (v := .bool true) F rfl rfl rfl (Sx.i_lt (decide_eq_true (by omega)))) (Sx.wanted_on rfl (Sx.guard_known (d := 11) (b := true) F rfl rfl) rfl) rfl (by decide) (fun A F => ?_)
    refine Sx.sv F (Sx.d_pickT (v := .bool true) F rfl rfl rfl) (Sx.wanted_none rfl _) rfl (by decide) (fun A F => ?_)
    refine Sx.nil ?_
    refine hK6 _ _ ?_
    refine Sx.condT F rfl ?_
    refine wp_skip ?_
    refine hK5 _ _ ?_
    refine Sx.seq (fun K7 hK7 => ?_)
    refine wp_block ?_
    refine Sx.plain ?_
    refine Sx.sv F (Sx.d_move F (Or.inl rfl) rfl) (Sx.wanted_none rfl _) rfl (by decide) (fun A F => ?_)
    refine Sx.sg (mk := fun g => .slice (some ⟨g, 0, none⟩) 1 1) F (Sx.d_lit (qs := #[(0, .int .i64 0)]) (cs := #[.int .i64 0]) (E := 3) F H rfl rfl (fun _ => by kernel_rfl)) (Sx.wanted_none rfl _) rfl (by decide) (fun g3 A w F (H : Sx.Own w0 _ [(true, g3, [.int .i64 0]), (true, g2, [.int .u64 ((Wd.hi 0#128).toNat), .int .u64 ((Wd.lo 0#128).toNat)]), (true, g1, [.int .u64 ((Wd.hi x).toNat), .int .u64 ((Wd.lo x).toNat)])] [⟨true, v, 3, 1, i, (Bi.bis (fun _ => false) i)⟩]) => ?_)
    refine Sx.sr (mk := fun v => v) F (Sx.d_append (i := 0) (j := 0) el_77 F H rfl rfl rfl rfl rfl rfl rfl rfl (by omega) (by decide)) (Sx.wanted_none rfl _) rfl (by decide) (fun v2 A w F (H : Sx.Own w0 _ [(true, g3, [.int .i64 0]), (true, g2, [.int .u64 ((Wd.hi 0#128).toNat), .int .u64 ((Wd.lo 0#128).toNat)]), (true, g1, [.int .u64 ((Wd.hi x).toNat), .int .u64 ((Wd.lo x).toNat)])] [⟨true, v2, 3, 1, (i + 1), (Bi.bis (fun _ => false) i) ++ [.int .i64 0]⟩]) => ?_)
    refine Sx.sv F (Sx.d_move F (Or.inr rfl) rfl) (Sx.wanted_none rfl _) rfl (by decide) (fun A F => ?_)
    refine Sx.nil ?_
    refine hK7 _ _ ?_
    refine Sx.plain ?_
    refine Sx.sv F (Sx.d_move F (Or.inl rfl) rfl) (Sx.wanted_none rfl _) rfl (by decide) (fun A F => ?_)
    refine Sx.sv F (Sx.d_bin (v := .int .i64 (i + 1 : Nat)) F rfl rfl rfl (Sx.i_addN rfl (Sx.in_i64 _ (by omega)))) (Sx.wanted_none rfl _) rfl (by decide) (fun A F => ?_)
    refine Sx.sv F (Sx.d_move F (Or.inr rfl) rfl) (Sx.wanted_none rfl _) rfl (by decide) (fun A F => ?_)
    refine Sx.nil ?_
    try dsimp only [Exit.then]
    exact ⟨T - (i + 1), by omega, i + 1, v2, rfl, by omega, F.to ⟨rfl, rfl, rfl, rfl, rfl, trivial⟩, by rw [Bi.snoc0]; exact H.to' [1, 2] [0] (by decide) (by decide) rfl rfl⟩
  · obtain rfl : i = T := by omega
    by_cases hs : (i : Int) < sh
    · skip
      refine Sx.seq (fun K8 hK8 => ?_)
      refine Sx.seq (fun K9 hK9 => ?_)
      refine Sx.plain ?_
      refine Sx.sv F (Sx.d_move F (Or.inl rfl) rfl) (Sx.wanted_none rfl _) rfl (by decide) (fun A F => ?_)
      refine Sx.sv F (Sx.d_move F (Or.inl rfl) rfl) (Sx.wanted_none rfl _) rfl (by decide) (fun A F => ?_)
      refine Sx.sv F (Sx.d_bin (v := .bool true) F rfl rfl rfl (Sx.i_lt (decide_eq_true (by omega)))) (Sx.wanted_none rfl _) rfl (by decide) (fun A F => ?_)
      refine Sx.sv F (Sx.d_move F (Or.inl rfl) rfl) (Sx.wanted_none rfl _) rfl (by decide) (fun A F => ?_)
      refine Sx.sv F (Sx.d_move F (Or.inl rfl) rfl) (Sx.wanted_on rfl (Sx.guard_known (d := 11) (b := true) F rfl rfl) rfl) rfl (by decide) (fun A F => ?_)
      refine Sx.sv F (Sx.d_bin (v := .bool false) F rfl rfl rfl (Sx.i_lt (decide_eq_false (by omega)))) (Sx.wanted_on rfl (Sx.guard_known (d := 11) (b := true) F rfl rfl) rfl) rfl (by decide) (fun A F => ?_)
      refine Sx.sv F (Sx.d_pickT (v := .bool false) F rfl rfl rfl) (Sx.wanted_none rfl _) rfl (by decide) (fun A F => ?_)
      refine Sx.nil ?_
      refine hK9 _ _ ?_
      refine Sx.condF F rfl ?_
      refine wp_exit ?_
      try dsimp only [Exit.then, Exit.jump]
      refine Sx.exit_here ?_
      refine hK3 _ _ ?_
      refine Sx.seq (fun K10 hK10 => ?_)
      refine Sx.plain ?_
      refine Sx.sv F (Sx.d_move F (Or.inl rfl) rfl) (Sx.wanted_none rfl _) rfl (by decide) (fun A F => ?_)
      refine Sx.sv F (Sx.d_load (i := 1) (xs := [.int .u64 ((Wd.hi x).toNat), .int .u64 ((Wd.lo x).toNat)]) rw_43 F H rfl rfl rfl rfl rfl) (Sx.wanted_none rfl _) rfl (by decide) (fun A F => ?_)
      refine Sx.sr (mk := fun v => v) F (Sx.d_callR (vs := [.agg #[.int .u64 ((Wd.hi x).toNat), .int .u64 ((Wd.lo x).toNat)]]) (mk := fun v => v) if_61 F H rfl rfl (rlist_c x _)) (Sx.wanted_none rfl _) rfl (by decide) (fun v3 A w F (H : Sx.Own w0 _ [(true, g2, [.int .u64 ((Wd.hi 0#128).toNat), .int .u64 ((Wd.lo 0#128).toNat)]), (true, g1, [.int .u64 ((Wd.hi x).toNat), .int .u64 ((Wd.lo x).toNat)])] [⟨true, v3, 3, 1, 128, (Bi.bis (BitVec.getLsbD x) 128)⟩, ⟨true, v, 3, 1, i, (Bi.bis (fun _ => false) i)⟩]) => ?_)
      refine Sx.sr (mk := fun v => v) F (Sx.d_appendR (i := 1) (j := 0) el_77 F H rfl rfl rfl rfl rfl (Bi.ones _ _) rfl (by omega) (by decide)) (Sx.wanted_none rfl _) rfl (by decide) (fun v4 A w F (H : Sx.Own w0 _ [(true, g2, [.int .u64 ((Wd.hi 0#128).toNat), .int .u64 ((Wd.lo 0#128).toNat)]), (true, g1, [.int .u64 ((Wd.hi x).toNat), .int .u64 ((Wd.lo x).toNat)])] [⟨true, v3, 3, 1, 128, (Bi.bis (BitVec.getLsbD x) 128)⟩, ⟨true, v4, 3, 1, (i + 128), (Bi.bis (fun _ => false) i) ++ (Bi.bis (BitVec.getLsbD x) 128)⟩]) => ?_)
      refine Sx.sv F (Sx.d_move F (Or.inr rfl) rfl) (Sx.wanted_none rfl _) rfl (by decide) (fun A F => ?_)
      refine Sx.nil ?_
      refine hK10 _ _ ?_
      refine Sx.seq (fun K11 hK11 => ?_)
      refine Sx.plain ?_
      refine Sx.sv F (Sx.d_move F (Or.inl rfl) rfl) (Sx.wanted_none rfl _) rfl (by decide) (fun A F => ?_)
      obtain ⟨lg, lc, rfl, hc1, hc2⟩ := H.open (i := 1) rfl (by omega)
      refine Sx.sv F (Sx.d_sliceH (h := 128) el_77 F rfl rfl rfl rfl (by omega)) (Sx.wanted_none rfl _) rfl (by decide) (fun A F => ?_)
      refine Sx.sw F (Sx.d_call (vs := [.slice (some ⟨lg, 0, none⟩) 128 lc]) (v := .agg #[.int .u64 ((Wd.hi (Bi.of (Bi.up x i) 128)).toNat), .int .u64 ((Wd.lo (Bi.of (Bi.up x i) 128)).toNat)]) if_59 F H rfl rfl (rof_c (Bi.up x i) _ _ _ (Bi.Rd.take (Bi.Rd.row (Sx.rowEq (H.row 1 _ rfl rfl) rfl rfl rfl rfl (Bi.app_up x i)) (by omega)) 128 (by omega)))) (Sx.wanted_none rfl _) rfl (by decide) (fun A w F H => ?_)
      refine Sx.ss F (Sx.d_store (i := 0) (xs := [.int .u64 ((Wd.hi (Bi.of (Bi.up x i) 128)).toNat), .int .u64 ((Wd.lo (Bi.of (Bi.up x i) 128)).toNat)]) (us := [.int .u64 ((Wd.hi (Bi.of (Bi.up x i) 128)).toNat), .int .u64 ((Wd.lo (Bi.of (Bi.up x i) 128)).toNat)]) sz_43 F H rfl rfl rfl rfl rfl rfl rfl (Nat.le_of_ble_eq_true rfl) rfl) (Sx.wanted_none rfl _) rfl (fun A w F (H : Sx.Own w0 _ [(true, g2, [.int .u64 ((Wd.hi (Bi.of (Bi.up x i) 128)).toNat), .int .u64 ((Wd.lo (Bi.of (Bi.up x i) 128)).toNat)]), (true, g1, [.int .u64 ((Wd.hi x).toNat), .int .u64 ((Wd.lo x).toNat)])] [⟨true, v3, 3, 1, 128, (Bi.bis (BitVec.getLsbD x) 128)⟩, ⟨true, .slice (some ⟨lg, 0, none⟩) (i + 128) lc, 3, 1, (i + 128), (Bi.bis (fun _ => false) i) ++ (Bi.bis (BitVec.getLsbD x) 128)⟩]) => ?_)
      refine Sx.nil ?_
      refine hK11 _ _ ?_
      refine wp_ret ?_
      try dsimp only [Exit.then, Exit.inBlock, Exit.jump]
      refine Sx.ret1 F Try.results29 (Sx.res_row (i := 0) (xs := [.int .u64 ((Wd.hi (Bi.of (Bi.up x i) 128)).toNat), .int .u64 ((Wd.lo (Bi.of (Bi.up x i) 128)).toNat)]) rw_43 F H rfl rfl rfl rfl) ⟨?_, H.below⟩
      rw [Bi.of_up]
    · skip
      refine Sx.seq (fun K12 hK12 => ?_)
      refine Sx.seq (fun K13 hK13 => ?_)
      refine Sx.plain ?_
      refine Sx.sv F (Sx.d_move F (Or.inl rfl) rfl) (Sx.wanted_none rfl _) rfl (by decide) (fun A F => ?_)
      refine Sx.sv F (Sx.d_move F (Or.inl rfl) rfl) (Sx.wanted_none rfl _) rfl (by decide) (fun A F => ?_)
      refine Sx.sv F (Sx.d_bin (v := .bool false) F rfl rfl rfl (Sx.i_lt (decide_eq_false (by omega)))) (Sx.wanted_none rfl _) rfl (by decide) (fun A F => ?_)
      refine Sx.sv F (Sx.d_move F (Or.inl rfl) rfl) (Sx.wanted_none rfl _) rfl (by decide) (fun A F => ?_)
      refine Sx.su F (Sx.wanted_off rfl (Sx.guard_known (d := 11) (b := false) F rfl rfl) rfl) rfl (by decide) (fun A F => ?_)
      refine Sx.su F (Sx.wanted_off rfl (Sx.guard_known (d := 11) (b := false) F rfl rfl) rfl) rfl (by decide) (fun A F => ?_)
      refine Sx.sv F (Sx.d_pickF (v := .bool false) F rfl rfl rfl) (Sx.wanted_none rfl _) rfl (by decide) (fun A F => ?_)
      refine Sx.nil ?_
      refine hK13 _ _ ?_
      refine Sx.condF F rfl ?_
      refine wp_exit ?_
      try dsimp only [Exit.then, Exit.jump]
      refine Sx.exit_here ?_
      refine hK3 _ _ ?_
      refine Sx.seq (fun K14 hK14 => ?_)
      refine Sx.plain ?_
      refine Sx.sv F (Sx.d_move F (Or.inl rfl) rfl) (Sx.wanted_none rfl _) rfl (by decide) (fun A F => ?_)
      refine Sx.sv F (Sx.d_load (i := 1) (xs := [.int .u64 ((Wd.hi x).toNat), .int .u64 ((Wd.lo x).toNat)]) rw_43 F H rfl rfl rfl rfl rfl) (Sx.wanted_none rfl _) rfl (by decide) (fun A F => ?_)
      refine Sx.sr (mk := fun v => v) F (Sx.d_callR (vs := [.agg #[.int .u64 ((Wd.hi x).toNat), .int .u64 ((Wd.lo x).toNat)]]) (mk := fun v => v) if_61 F H rfl rfl (rlist_c x _)) (Sx.wanted_none rfl _) rfl (by decide) (fun v5 A w F (H : Sx.Own w0 _ [(true, g2, [.int .u64 ((Wd.hi 0#128).toNat), .int .u64 ((Wd.lo 0#128).toNat)]), (true, g1, [.int .u64 ((Wd.hi x).toNat), .int .u64 ((Wd.lo x).toNat)])] [⟨true, v5, 3, 1, 128, (Bi.bis (BitVec.getLsbD x) 128)⟩, ⟨true, v, 3, 1, i, (Bi.bis (fun _ => false) i)⟩]) => ?_)
      refine Sx.sr (mk := fun v => v) F (Sx.d_appendR (i := 1) (j := 0) el_77 F H rfl rfl rfl rfl rfl (Bi.ones _ _) rfl (by omega) (by decide)) (Sx.wanted_none rfl _) rfl (by decide) (fun v6 A w F (H : Sx.Own w0 _ [(true, g2, [.int .u64 ((Wd.hi 0#128).toNat), .int .u64 ((Wd.lo 0#128).toNat)]), (true, g1, [.int .u64 ((Wd.hi x).toNat), .int .u64 ((Wd.lo x).toNat)])] [⟨true, v5, 3, 1, 128, (Bi.bis (BitVec.getLsbD x) 128)⟩, ⟨true, v6, 3, 1, (i + 128), (Bi.bis (fun _ => false) i) ++ (Bi.bis (BitVec.getLsbD x) 128)⟩]) => ?_)
      refine Sx.sv F (Sx.d_move F (Or.inr rfl) rfl) (Sx.wanted_none rfl _) rfl (by decide) (fun A F => ?_)
      refine Sx.nil ?_
      refine hK14 _ _ ?_
      refine Sx.seq (fun K15 hK15 => ?_)
      refine Sx.plain ?_
      refine Sx.sv F (Sx.d_move F (Or.inl rfl) rfl) (Sx.wanted_none rfl _) rfl (by decide) (fun A F => ?_)
      obtain ⟨lg, lc, rfl, hc1, hc2⟩ := H.open (i := 1) rfl (by omega)
      refine Sx.sv F (Sx.d_sliceH (h := 128) el_77 F rfl rfl rfl rfl (by omega)) (Sx.wanted_none rfl _) rfl (by decide) (fun A F => ?_)
      refine Sx.sw F (Sx.d_call (vs := [.slice (some ⟨lg, 0, none⟩) 128 lc]) (v := .agg #[.int .u64 ((Wd.hi (Bi.of (Bi.up x i) 128)).toNat), .int .u64 ((Wd.lo (Bi.of (Bi.up x i) 128)).toNat)]) if_59 F H rfl rfl (rof_c (Bi.up x i) _ _ _ (Bi.Rd.take (Bi.Rd.row (Sx.rowEq (H.row 1 _ rfl rfl) rfl rfl rfl rfl (Bi.app_up x i)) (by omega)) 128 (by omega)))) (Sx.wanted_none rfl _) rfl (by decide) (fun A w F H => ?_)
      refine Sx.ss F (Sx.d_store (i := 0) (xs := [.int .u64 ((Wd.hi (Bi.of (Bi.up x i) 128)).toNat), .int .u64 ((Wd.lo (Bi.of (Bi.up x i) 128)).toNat)]) (us := [.int .u64 ((Wd.hi (Bi.of (Bi.up x i) 128)).toNat), .int .u64 ((Wd.lo (Bi.of (Bi.up x i) 128)).toNat)]) sz_43 F H rfl rfl rfl rfl rfl rfl rfl (Nat.le_of_ble_eq_true rfl) rfl) (Sx.wanted_none rfl _) rfl (fun A w F (H : Sx.Own w0 _ [(true, g2, [.int .u64 ((Wd.hi (Bi.of (Bi.up x i) 128)).toNat), .int .u64 ((Wd.lo (Bi.of (Bi.up x i) 128)).toNat)]), (true, g1, [.int .u64 ((Wd.hi x).toNat), .int .u64 ((Wd.lo x).toNat)])] [⟨true, v5, 3, 1, 128, (Bi.bis (BitVec.getLsbD x) 128)⟩, ⟨true, .slice (some ⟨lg, 0, none⟩) (i + 128) lc, 3, 1, (i + 128), (Bi.bis (fun _ => false) i) ++ (Bi.bis (BitVec.getLsbD x) 128)⟩]) => ?_)
      refine Sx.nil ?_
      refine hK15 _ _ ?_
      refine wp_ret ?_
      try dsimp only [Exit.then, Exit.inBlock, Exit.jump]
      refine Sx.ret1 F Try.results29 (Sx.res_row (i := 0) (xs := [.int .u64 ((Wd.hi (Bi.of (Bi.up x i) 128)).toNat), .int .u64 ((Wd.lo (Bi.of (Bi.up x i) 128)).toNat)]) rw_43 F H rfl rfl rfl rfl) ⟨?_, H.below⟩
      rw [Bi.of_up]
set_option maxRecDepth 100000 in
theorem rbitN_c (x : BitVec 128) (k : Nat) (hk : k < 128) (w0 : World) : Calls Try.prog 32 #[.agg #[.int .u64 ((Wd.hi x).toNat), .int .u64 ((Wd.lo x).toNat)], .int .i64 k] w0 fun e w' => e = .returned (.int .i64 ((x.getLsbD k).toNat)) ∧ Below w0.heap.size w0 w' := by
  refine Sx.enter (args := [.agg #[.int .u64 ((Wd.hi x).toNat), .int .u64 ((Wd.lo x).toNat)], .int .i64 k]) Try.func32 rfl Try.ntmps32 (Nat.le_of_ble_eq_true rfl) (fun A F => ?_)
  have H := Sx.Own.start w0
  refine Sx.seq (fun K1 hK1 => ?_)
  refine Sx.plain ?_
  refine Sx.sb F (Sx.d_box F H rfl rfl [.int .u64 ((Wd.hi x).toNat), .int .u64 ((Wd.lo x).toNat)] rfl) (Sx.wanted_none rfl _) rfl (by decide) (fun g1 A w F H => ?_)
  refine Sx.sv F (Sx.d_move F (Or.inr rfl) rfl) (Sx.wanted_none rfl _) rfl (by decide) (fun A F => ?_)
  refine Sx.nil ?_
  refine hK1 _ _ ?_
  refine Sx.seq (fun K2 hK2 => ?_)
  refine Sx.seq (fun K3 hK3 => ?_)
  refine Sx.plain ?_
  refine Sx.sv F (Sx.d_move F (Or.inl rfl) rfl) (Sx.wanted_none rfl _) rfl (by decide) (fun A F => ?_)
  refine Sx.sv F (Sx.d_bin (v := .bool false) F rfl rfl rfl (Sx.i_lt (decide_eq_false (by omega)))) (Sx.wanted_none rfl _) rfl (by decide) (fun A F => ?_)
  refine Sx.sv F (Sx.d_move F (Or.inl rfl) rfl) (Sx.wanted_none rfl _) rfl (by decide) (fun A F => ?_)
  refine Sx.sv F (Sx.d_move F (Or.inl rfl) rfl) (Sx.wanted_on rfl (Sx.guard_known (d := 7) (b := false) F rfl rfl) rfl) rfl (by decide) (fun A F => ?_)
  refine Sx.sv F (Sx.d_bin (v := .bool false) F rfl rfl rfl (Sx.i_gt (decide_eq_false (by omega)))) (Sx.wanted_on rfl (Sx.guard_known (d := 7) (b := false) F rfl rfl) rfl) rfl (by decide) (fun A F => ?_)
  refine Sx.sv F (Sx.d_pickF (v := .bool false) F rfl rfl rfl) (Sx.wanted_none rfl _) rfl (by decide) (fun A F => ?_)
  refine Sx.nil ?_
  refine hK3 _ _ ?_
  refine Sx.condF F rfl ?_
  refine wp_skip ?_
  refine hK2 _ _ ?_
  refine Sx.seq (fun K4 hK4 => ?_)
  refine Sx.plain ?_
  refine Sx.sv F (Sx.d_load (i := 0) (xs := [.int .u64 ((Wd.hi x).toNat), .int .u64 ((Wd.lo x).toNat)]) rw_43 F H rfl rfl rfl rfl rfl) (Sx.wanted_none rfl _) rfl (by decide) (fun A F => ?_)
  refine Sx.sr (mk := fun v => v) F (Sx.d_callR (vs := [.agg #[.int .u64 ((Wd.hi x).toNat), .int .u64 ((Wd.lo x).toNat)]]) (mk := fun v => v) if_61 F H rfl rfl (rlist_c x _)) (Sx.wanted_none rfl _) rfl (by decide) (fun v1 A w F (H : Sx.Own w0 _ [(true, g1, [.int .u64 ((Wd.hi x).toNat), .int .u64 ((Wd.lo x).toNat)])] [⟨true, v1, 3, 1, 128, (Bi.bis (BitVec.getLsbD x) 128)⟩]) => ?_)
  refine Sx.sv F (Sx.d_move F (Or.inl rfl) rfl) (Sx.wanted_none rfl _) rfl (by decide) (fun A F => ?_)
  obtain ⟨lg, lc, rfl, hc1, hc2⟩ := H.open (i := 0) rfl (by omega)
  refine Sx.sv F (Sx.d_ixR (k := k) el_77 F rfl rfl rfl (rfl) (by omega)) (Sx.wanted_none rfl _) rfl (by decide) (fun A F => ?_)
  refine Sx.sv F (Sx.d_loadR (i := 0) (v := .int .i64 ((x.getLsbD k).toNat)) one_3 F H rfl rfl rfl (Bi.at_ _ _ _ (by omega))) (Sx.wanted_none rfl _) rfl (by decide) (fun A F => ?_)
  refine Sx.sv F (Sx.d_move F (Or.inr rfl) rfl) (Sx.wanted_none rfl _) rfl (by decide) (fun A F => ?_)
  refine Sx.nil ?_
  refine hK4 _ _ ?_
  refine wp_ret ?_
  try dsimp only [Exit.then, Exit.inBlock, Exit.jump]
  refine Sx.ret1 F Try.results32 (Sx.res_tmp (v := .int .i64 ((x.getLsbD k).toNat)) F rfl) ⟨?_, H.below⟩
  rfl
end Go.Proofs.Ytpbdffmgendboab
