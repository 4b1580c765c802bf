/- The reference's Print walked. -/
import Derived.Test.YtpbdffmgendboabRb
namespace Go.Proofs.Ytpbdffmgendboab
open Go Go.RowKit
set_option maxHeartbeats 4000000 in
set_option maxRecDepth 100000 in
theorem rprint_c (x : BitVec 128) (w0 : World) : Calls Try.prog 35 #[.agg #[.int .u64 ((Wd.hi x).toNat), .int .u64 ((Wd.lo x).toNat)]] w0 fun e w' => e = .returned (.string (Dg.str x.toNat)) ∧ Below w0.heap.size w0 w' := by
  refine Sx.enter (args := [.agg #[.int .u64 ((Wd.hi x).toNat), .int .u64 ((Wd.lo x).toNat)]]) Try.func35 rfl Try.ntmps35 (Nat.le_of_ble_eq_true rfl) (fun A F => ?_)
  have H := Sx.Own.start w0
  refine Sx.seq (fun K1 hK1 => ?_)
  refine Sx.plain ?_
  refine Sx.sb F (Sx.d_box F H rfl rfl [.int .u64 ((Wd.hi x).toNat), .int .u64 ((Wd.lo x).toNat)] rfl) (Sx.wanted_none rfl _) rfl (by decide) (fun g1 A w F H => ?_)
  refine Sx.sv F (Sx.d_move F (Or.inr rfl) rfl) (Sx.wanted_none rfl _) rfl (by decide) (fun A F => ?_)
  refine Sx.nil ?_
  refine hK1 _ _ ?_
  refine Sx.seq (fun K2 hK2 => ?_)
  refine Sx.plain ?_
  refine Sx.sr (mk := fun v => v) F (Sx.d_litR (qs := #[(0, .int .i64 0)]) (cs := #[.int .i64 0]) (E := 3) (z := 1) F H rfl rfl (fun _ => by kernel_rfl) rfl (by decide)) (Sx.wanted_none rfl _) rfl (by decide) (fun v1 A w F (H : Sx.Own w0 _ [(true, g1, [.int .u64 ((Wd.hi x).toNat), .int .u64 ((Wd.lo x).toNat)])] [⟨true, v1, 3, 1, 1, [.int .i64 0]⟩]) => ?_)
  refine Sx.sv F (Sx.d_move F (Or.inr rfl) rfl) (Sx.wanted_none rfl _) rfl (by decide) (fun A F => ?_)
  refine Sx.nil ?_
  refine hK2 _ _ ?_
  refine Sx.seq (fun K3 hK3 => ?_)
  refine Sx.plain ?_
  refine Sx.sv F (Sx.d_load (i := 0) (xs := [.int .u64 ((Wd.hi x).toNat), .int .u64 ((Wd.lo x).toNat)]) rw_43 F H rfl rfl rfl rfl rfl) (Sx.wanted_none rfl _) rfl (by decide) (fun A F => ?_)
  refine Sx.sr (mk := fun v => v) F (Sx.d_callR (vs := [.agg #[.int .u64 ((Wd.hi x).toNat), .int .u64 ((Wd.lo x).toNat)]]) (mk := fun v => v) if_61 F H rfl rfl (rlist_c x _)) (Sx.wanted_none rfl _) rfl (by decide) (fun v2 A w F (H : Sx.Own w0 _ [(true, g1, [.int .u64 ((Wd.hi x).toNat), .int .u64 ((Wd.lo x).toNat)])] [⟨true, v2, 3, 1, 128, (Bi.bis (BitVec.getLsbD x) 128)⟩, ⟨true, v1, 3, 1, 1, [.int .i64 0]⟩]) => ?_)
  refine Sx.sv F (Sx.d_move F (Or.inr rfl) rfl) (Sx.wanted_none rfl _) rfl (by decide) (fun A F => ?_)
  refine Sx.nil ?_
  refine hK3 _ _ ?_
  refine Sx.seq (fun K4 hK4 => ?_)
  refine Sx.seq (fun K5 hK5 => ?_)
  refine Sx.plain ?_
  refine Sx.sv F (Sx.d_move F (Or.inr rfl) rfl) (Sx.wanted_none rfl _) rfl (by decide) (fun A F => ?_)
  refine Sx.nil ?_
  refine hK5 _ _ ?_
  refine wp_block ?_
  obtain ⟨lg, lc, rfl, hc1, hc2⟩ := H.open (i := 0) rfl (by omega)
  have hx := x.isLt
  have F := Sx.Fr.to F (kv' := [(4, .slice (some ⟨lg, 0, none⟩) 128 lc), (3, v1), (5, .int .i64 (((128 : Nat) : Int) - 1))]) ⟨rfl, rfl, rfl, trivial⟩
  refine Sx.loop (fun t A w => ∃ v : Value, t ≤ 128 ∧ Sx.Fr 65 A [(4, .slice (some ⟨lg, 0, none⟩) 128 lc), (3, v), (5, .int .i64 ((t : Int) - 1))] ∧ Sx.Own w0 w [] [⟨true, v, 3, 1, (Dg.len (x.toNat / 2 ^ t)), (Dg.ints (Dg.ds (x.toNat / 2 ^ t)))⟩, ⟨true, .slice (some ⟨lg, 0, none⟩) 128 lc, 3, 1, 128, (Bi.bis (BitVec.getLsbD x) 128)⟩]) 128 ⟨v1, Nat.le_refl _, F, by rw [Nat.div_eq_of_lt hx]; exact H.to' [] [1, 0] (by decide) (by decide) rfl rfl⟩ ?_
  rintro k A w ⟨v, hk, F, H⟩
  rcases k with _ | t
  · skip
    refine Sx.seq (fun K6 hK6 => ?_)
    refine Sx.seq (fun K7 hK7 => ?_)
    refine Sx.plain ?_
    refine Sx.sv F (Sx.d_move F (Or.inl rfl) rfl) (Sx.wanted_none rfl _) rfl (by decide) (fun A F => ?_)
    refine Sx.sv F (Sx.d_bin (v := .bool false) F rfl rfl rfl (Sx.i_ge (by decide))) (Sx.wanted_none rfl _) rfl (by decide) (fun A F => ?_)
    refine Sx.nil ?_
    refine hK7 _ _ ?_
    refine Sx.condF F rfl ?_
    refine wp_exit ?_
    try dsimp only [Exit.then, Exit.jump]
    refine Sx.exit_here ?_
    refine hK4 _ _ ?_
    refine Sx.seq (fun K8 hK8 => ?_)
    refine Sx.plain ?_
    refine Sx.sv F (Sx.d_move F (Or.inr rfl) rfl) (Sx.wanted_none rfl _) rfl (by decide) (fun A F => ?_)
    refine Sx.nil ?_
    refine hK8 _ _ ?_
    refine Sx.seq (fun K9 hK9 => ?_)
    refine Sx.seq (fun K10 hK10 => ?_)
    refine Sx.plain ?_
    refine Sx.sv F (Sx.d_move F (Or.inr rfl) rfl) (Sx.wanted_none rfl _) rfl (by decide) (fun A F => ?_)
    refine Sx.nil ?_
    refine hK10 _ _ ?_
    refine wp_block ?_
    have hpos := Dg.len_pos' (x.toNat / 2 ^ 0)
    have hlen := Dg.len_lt (x.toNat / 2 ^ 0)
    obtain ⟨dg, dc, rfl, hc1, hc2⟩ := H.open (i := 0) rfl (by omega)
    have H := H.to' (cs := []) (ts := [⟨true, .slice (some ⟨dg, 0, none⟩) (Dg.len (x.toNat / 2 ^ 0)) dc, 3, 1, (Dg.len (x.toNat / 2 ^ 0)), (Dg.ints (Dg.ds (x.toNat / 2 ^ 0)))⟩]) [] [0] (by decide) (by decide) rfl rfl
    refine Sx.loop (fun q A w => ∃ k : Nat, q = Dg.len (x.toNat / 2 ^ 0) - k ∧ k ≤ Dg.len (x.toNat / 2 ^ 0) ∧ Sx.Fr 65 A [(3, .slice (some ⟨dg, 0, none⟩) (Dg.len (x.toNat / 2 ^ 0)) dc), (9, .string (Dg.strp (x.toNat / 2 ^ 0) k)), (10, .int .i64 k)] ∧ Sx.Own w0 w [] [⟨true, .slice (some ⟨dg, 0, none⟩) (Dg.len (x.toNat / 2 ^ 0)) dc, 3, 1, (Dg.len (x.toNat / 2 ^ 0)), (Dg.ints (Dg.ds (x.toNat / 2 ^ 0)))⟩]) (Dg.len (x.toNat / 2 ^ 0)) ⟨0, rfl, Nat.zero_le _, F.to ⟨rfl, rfl, rfl, trivial⟩, H⟩ ?_
    rintro q A w ⟨k, rfl, hk, F, H⟩
    by_cases hlt : k < Dg.len (x.toNat / 2 ^ 0)
    · have hget := Dg.get (x.toNat / 2 ^ 0) k hlt
      have hd9 := Dg.get_lt (x.toNat / 2 ^ 0) k
      refine Sx.seq (fun K11 hK11 => ?_)
      refine Sx.seq (fun K12 hK12 => ?_)
      refine Sx.plain ?_
      refine Sx.sv F (Sx.d_move F (Or.inl rfl) rfl) (Sx.wanted_none rfl _) rfl (by decide) (fun A F => ?_)
      refine Sx.sv F (Sx.d_move F (Or.inl rfl) rfl) (Sx.wanted_none rfl _) rfl (by decide) (fun A F => ?_)
      refine Sx.sv F (Sx.d_len (i := 0) el_77 F H rfl rfl rfl) (Sx.wanted_none rfl _) rfl (by decide) (fun A F => ?_)
      refine Sx.sv F (Sx.d_bin (v := .bool true) F rfl rfl rfl (Sx.i_lt (decide_eq_true (by omega)))) (Sx.wanted_none rfl _) rfl (by decide) (fun A F => ?_)
      refine Sx.nil ?_
      refine hK12 _ _ ?_
      refine Sx.condT F rfl ?_
      refine wp_skip ?_
      refine hK11 _ _ ?_
      refine Sx.seq (fun K13 hK13 => ?_)
      refine wp_block ?_
      refine Sx.plain ?_
      refine Sx.sv F (Sx.d_move F (Or.inl rfl) rfl) (Sx.wanted_none rfl _) rfl (by decide) (fun A F => ?_)
      refine Sx.sv F (Sx.d_move F (Or.inl rfl) rfl) (Sx.wanted_none rfl _) rfl (by decide) (fun A F => ?_)
      refine Sx.sv F (Sx.d_ixR (k := k) el_77 F rfl rfl rfl (rfl) (by omega)) (Sx.wanted_none rfl _) rfl (by decide) (fun A F => ?_)
      refine Sx.sv F (Sx.d_loadR (i := 0) (v := .int .i64 ((Dg.ds (x.toNat / 2 ^ 0)).getD k 0)) one_3 F H rfl rfl rfl (hget)) (Sx.wanted_none rfl _) rfl (by decide) (fun A F => ?_)
      refine Sx.sv F (Sx.d_bin (v := .int .i64 (48 + (Dg.ds (x.toNat / 2 ^ 0)).getD k 0 : Nat)) F rfl rfl rfl (Sx.i_addN rfl (Sx.in_i64 _ (by omega)))) (Sx.wanted_none rfl _) rfl (by decide) (fun A F => ?_)
      refine Sx.sv F (Sx.d_conv (v := .int .u8 (48 + (Dg.ds (x.toNat / 2 ^ 0)).getD k 0 : Nat)) F rfl rfl (Sx.c_i64_u8 _ (by omega))) (Sx.wanted_none rfl _) rfl (by decide) (fun A F => ?_)
      refine Sx.sr (mk := fun v => v) F (Sx.d_litR (qs := #[(0, .int .u8 (48 + (Dg.ds (x.toNat / 2 ^ 0)).getD k 0 : Nat))]) (cs := #[.int .u8 (48 + (Dg.ds (x.toNat / 2 ^ 0)).getD k 0 : Nat)]) (E := 5) (z := 1) F H rfl rfl (fun _ => by kernel_rfl) rfl (by decide)) (Sx.wanted_none rfl _) rfl (by decide) (fun v3 A w F (H : Sx.Own w0 _ [] [⟨true, v3, 5, 1, 1, [.int .u8 (48 + (Dg.ds (x.toNat / 2 ^ 0)).getD k 0 : Nat)]⟩, ⟨true, .slice (some ⟨dg, 0, none⟩) (Dg.len (x.toNat / 2 ^ 0)) dc, 3, 1, (Dg.len (x.toNat / 2 ^ 0)), (Dg.ints (Dg.ds (x.toNat / 2 ^ 0)))⟩]) => ?_)
      refine Sx.sv F (Sx.d_str (i := 0) (ns := [((48 + (Dg.ds (x.toNat / 2 ^ 0)).getD k 0 : Nat) : Int)]) Sx.undU8 Sx.undByte Sx.undStr F H rfl rfl rfl (Dg.one_fold _)) (Sx.wanted_none rfl _) rfl (by decide) (fun A F => ?_)
      refine Sx.sv F (Sx.d_move F (Or.inl rfl) rfl) (Sx.wanted_none rfl _) rfl (by decide) (fun A F => ?_)
      refine Sx.sv F (Sx.d_bin (v := .string (Dg.strp (x.toNat / 2 ^ 0) (k + 1))) F rfl rfl rfl (Sx.i_sadd (Dg.strp_step _ k hlt) (Dg.strp_sum _ _ _))) (Sx.wanted_none rfl _) rfl (by decide) (fun A F => ?_)
      refine Sx.sv F (Sx.d_move F (Or.inr rfl) rfl) (Sx.wanted_none rfl _) rfl (by decide) (fun A F => ?_)
      refine Sx.nil ?_
      refine hK13 _ _ ?_
      refine Sx.plain ?_
      refine Sx.sv F (Sx.d_move F (Or.inl rfl) rfl) (Sx.wanted_none rfl _) rfl (by decide) (fun A F => ?_)
      refine Sx.sv F (Sx.d_bin (v := .int .i64 (k + 1 : Nat)) F rfl rfl rfl (Sx.i_addN rfl (Sx.in_i64 _ (by omega)))) (Sx.wanted_none rfl _) rfl (by decide) (fun A F => ?_)
      refine Sx.sv F (Sx.d_move F (Or.inr rfl) rfl) (Sx.wanted_none rfl _) rfl (by decide) (fun A F => ?_)
      refine Sx.nil ?_
      try dsimp only [Exit.then]
      exact ⟨Dg.len (x.toNat / 2 ^ 0) - (k + 1), by omega, k + 1, rfl, by omega, F.to ⟨rfl, rfl, rfl, trivial⟩, H.to' [] [1] (by decide) (by decide) rfl rfl⟩
    · obtain rfl : k = Dg.len (x.toNat / 2 ^ 0) := by omega
      refine Sx.seq (fun K14 hK14 => ?_)
      refine Sx.seq (fun K15 hK15 => ?_)
      refine Sx.plain ?_
      refine Sx.sv F (Sx.d_move F (Or.inl rfl) rfl) (Sx.wanted_none rfl _) rfl (by decide) (fun A F => ?_)
      refine Sx.sv F (Sx.d_move F (Or.inl rfl) rfl) (Sx.wanted_none rfl _) rfl (by decide) (fun A F => ?_)
      refine Sx.sv F (Sx.d_len (i := 0) el_77 F H rfl rfl rfl) (Sx.wanted_none rfl _) rfl (by decide) (fun A F => ?_)
      refine Sx.sv F (Sx.d_bin (v := .bool false) F rfl rfl rfl (Sx.i_lt (by simp))) (Sx.wanted_none rfl _) rfl (by decide) (fun A F => ?_)
      refine Sx.nil ?_
      refine hK15 _ _ ?_
      refine Sx.condF F rfl ?_
      refine wp_exit ?_
      try dsimp only [Exit.then, Exit.jump]
      refine Sx.exit_here ?_
      refine hK9 _ _ ?_
      refine Sx.seq (fun K16 hK16 => ?_)
      refine Sx.plain ?_
      refine Sx.sv F (Sx.d_move F (Or.inl rfl) rfl) (Sx.wanted_none rfl _) rfl (by decide) (fun A F => ?_)
      refine Sx.sv F (Sx.d_move F (Or.inr rfl) rfl) (Sx.wanted_none rfl _) rfl (by decide) (fun A F => ?_)
      refine Sx.nil ?_
      refine hK16 _ _ ?_
      refine wp_ret ?_
      try dsimp only [Exit.then, Exit.inBlock, Exit.jump]
      refine Sx.ret1 F Try.results35 (Sx.res_tmp (v := .string (Dg.strp (x.toNat / 2 ^ 0) (Dg.len (x.toNat / 2 ^ 0)))) F rfl) ⟨?_, H.below⟩
      rw [Dg.strp_all, Nat.pow_zero, Nat.div_one]
  · have hdiv := Bi.div_bit x t
    have hbl := Bi.bl (x.getLsbD t)
    have hle : x.toNat / 2 ^ t ≤ x.toNat := Nat.div_le_self _ _
    have hpos := Dg.len_pos' (x.toNat / 2 ^ (t + 1))
    have hlen := Dg.len_lt (x.toNat / 2 ^ (t + 1))
    have hds := Dg.ds_dbl (x.toNat / 2 ^ (t + 1)) (x.getLsbD t).toNat (by omega) (by unfold Dg.M; omega)
    rw [← hdiv] at hds
    obtain ⟨dg, dc, rfl, hc1, hc2⟩ := H.open (i := 0) rfl (by omega)
    refine Sx.seq (fun K17 hK17 => ?_)
    refine Sx.seq (fun K18 hK18 => ?_)
    refine Sx.plain ?_
    refine Sx.sv F (Sx.d_move F (Or.inl rfl) rfl) (Sx.wanted_none rfl _) rfl (by decide) (fun A F => ?_)
    refine Sx.sv F (Sx.d_bin (v := .bool true) F rfl rfl rfl (Sx.i_ge (decide_eq_true (by omega)))) (Sx.wanted_none rfl _) rfl (by decide) (fun A F => ?_)
    refine Sx.nil ?_
    refine hK18 _ _ ?_
    refine Sx.condT F rfl ?_
    refine wp_skip ?_
    refine hK17 _ _ ?_
    refine Sx.seq (fun K19 hK19 => ?_)
    refine wp_block ?_
    refine Sx.seq (fun K20 hK20 => ?_)
    refine Sx.plain ?_
    refine Sx.sv F (Sx.d_move F (Or.inl rfl) rfl) (Sx.wanted_none rfl _) rfl (by decide) (fun A F => ?_)
    refine Sx.sv F (Sx.d_move F (Or.inl rfl) rfl) (Sx.wanted_none rfl _) rfl (by decide) (fun A F => ?_)
    refine Sx.sv F (Sx.d_ixR (k := t) el_77 F rfl rfl rfl (by omega) (by omega)) (Sx.wanted_none rfl _) rfl (by decide) (fun A F => ?_)
    refine Sx.sv F (Sx.d_loadR (i := 1) (v := .int .i64 ((x.getLsbD t).toNat)) one_3 F H rfl rfl rfl (Bi.at_ _ _ _ (by omega))) (Sx.wanted_none rfl _) rfl (by decide) (fun A F => ?_)
    refine Sx.sv F (Sx.d_move F (Or.inr rfl) rfl) (Sx.wanted_none rfl _) rfl (by decide) (fun A F => ?_)
    refine Sx.nil ?_
    refine hK20 _ _ ?_
    refine Sx.seq (fun K21 hK21 => ?_)
    refine Sx.seq (fun K22 hK22 => ?_)
    refine Sx.plain ?_
    refine Sx.sv F (Sx.d_move F (Or.inr rfl) rfl) (Sx.wanted_none rfl _) rfl (by decide) (fun A F => ?_)
    refine Sx.nil ?_
    refine hK22 _ _ ?_
    refine wp_block ?_
    refine Sx.loop (fun q A w => ∃ (pre suf : List Nat) (c k : Nat), q = suf.length ∧ pre.length = k ∧ k + suf.length = (Dg.len (x.toNat / 2 ^ (t + 1))) ∧ c ≤ 1 ∧ (∀ d ∈ suf, d < 10) ∧ Dg.ds (x.toNat / 2 ^ t) = pre ++ Dg.dbl suf c ∧ Sx.Fr 65 A [(3, .slice (some ⟨dg, 0, none⟩) (Dg.len (x.toNat / 2 ^ (t + 1))) dc), (4, .slice (some ⟨lg, 0, none⟩) 128 lc), (5, .int .i64 (((t + 1 : Nat) : Int) - 1)), (6, .int .i64 c), (7, .int .i64 k)] ∧ Sx.Own w0 w [] [⟨true, .slice (some ⟨dg, 0, none⟩) (Dg.len (x.toNat / 2 ^ (t + 1))) dc, 3, 1, (Dg.len (x.toNat / 2 ^ (t + 1))), (Dg.ints (pre ++ suf))⟩, ⟨true, .slice (some ⟨lg, 0, none⟩) 128 lc, 3, 1, 128, (Bi.bis (BitVec.getLsbD x) 128)⟩]) (Dg.ds (x.toNat / 2 ^ (t + 1))).length ⟨[], Dg.ds (x.toNat / 2 ^ (t + 1)), (x.getLsbD t).toNat, 0, rfl, rfl, Nat.zero_add _, by omega, fun d hd => Dg.digit' hd, hds, F.to ⟨rfl, rfl, rfl, rfl, rfl, trivial⟩, H⟩ ?_
    rintro q A w ⟨pre, suf, c, k, rfl, hk, hl, hc, hdig, hrel, F, H⟩
    rcases suf with _ | ⟨d, suf⟩
    · skip
      rw [Dg.dbl] at hrel
      refine Sx.seq (fun K23 hK23 => ?_)
      refine Sx.seq (fun K24 hK24 => ?_)
      refine Sx.plain ?_
      refine Sx.sv F (Sx.d_move F (Or.inl rfl) rfl) (Sx.wanted_none rfl _) rfl (by decide) (fun A F => ?_)
      refine Sx.sv F (Sx.d_move F (Or.inl rfl) rfl) (Sx.wanted_none rfl _) rfl (by decide) (fun A F => ?_)
      refine Sx.sv F (Sx.d_len (i := 0) el_77 F H rfl rfl rfl) (Sx.wanted_none rfl _) rfl (by decide) (fun A F => ?_)
      refine Sx.sv F (Sx.d_bin (v := .bool false) F rfl rfl rfl (Sx.i_lt (decide_eq_false (by simp only [List.length_nil] at hl; omega)))) (Sx.wanted_none rfl _) rfl (by decide) (fun A F => ?_)
      refine Sx.nil ?_
      refine hK24 _ _ ?_
      refine Sx.condF F rfl ?_
      refine wp_exit ?_
      try dsimp only [Exit.then, Exit.jump]
      refine Sx.exit_here ?_
      refine hK21 _ _ ?_
      by_cases hc0 : 0 < c
      · rw [if_pos hc0] at hrel
        have hnew : Dg.ints (Dg.ds (x.toNat / 2 ^ t)) = Dg.ints (pre ++ []) ++ [.int .i64 (c : Nat)] := by rw [hrel, List.append_nil, Dg.ints_snoc]
        have hlen' : Dg.len (x.toNat / 2 ^ t) = Dg.len (x.toNat / 2 ^ (t + 1)) + 1 := by unfold Dg.len at hl ⊢; rw [hrel, List.length_append, List.length_singleton, hk]; rw [List.length_nil] at hl; omega
        refine Sx.seq (fun K25 hK25 => ?_)
        refine Sx.plain ?_
        refine Sx.sv F (Sx.d_move F (Or.inl rfl) rfl) (Sx.wanted_none rfl _) rfl (by decide) (fun A F => ?_)
        refine Sx.sv F (Sx.d_bin (v := .bool true) F rfl rfl rfl (Sx.i_gt (decide_eq_true (by omega)))) (Sx.wanted_none rfl _) rfl (by decide) (fun A F => ?_)
        refine Sx.nil ?_
        refine hK25 _ _ ?_
        refine Sx.condT F rfl ?_
        refine Sx.plain ?_
        refine Sx.sv F (Sx.d_move F (Or.inl rfl) rfl) (Sx.wanted_none rfl _) rfl (by decide) (fun A F => ?_)
        refine Sx.sv F (Sx.d_move F (Or.inl rfl) rfl) (Sx.wanted_none rfl _) rfl (by decide) (fun A F => ?_)
        refine Sx.sg (mk := fun g => .slice (some ⟨g, 0, none⟩) 1 1) F (Sx.d_lit (qs := #[(0, .int .i64 c)]) (cs := #[.int .i64 c]) (E := 3) F H rfl rfl (fun _ => by kernel_rfl)) (Sx.wanted_none rfl _) rfl (by decide) (fun g2 A w F (H : Sx.Own w0 _ [(true, g2, [.int .i64 c])] [⟨true, .slice (some ⟨dg, 0, none⟩) (Dg.len (x.toNat / 2 ^ (t + 1))) dc, 3, 1, (Dg.len (x.toNat / 2 ^ (t + 1))), (Dg.ints (pre ++ []))⟩, ⟨true, .slice (some ⟨lg, 0, none⟩) 128 lc, 3, 1, 128, (Bi.bis (BitVec.getLsbD x) 128)⟩]) => ?_)
        refine Sx.sr (mk := fun v => v) F (Sx.d_append (i := 0) (j := 0) el_77 F H rfl rfl rfl rfl rfl rfl rfl rfl (by omega) (by decide)) (Sx.wanted_none rfl _) rfl (by decide) (fun v4 A w F (H : Sx.Own w0 _ [(true, g2, [.int .i64 c])] [⟨true, v4, 3, 1, ((Dg.len (x.toNat / 2 ^ (t + 1))) + 1), (Dg.ints (pre ++ [])) ++ [.int .i64 c]⟩, ⟨true, .slice (some ⟨lg, 0, none⟩) 128 lc, 3, 1, 128, (Bi.bis (BitVec.getLsbD x) 128)⟩]) => ?_)
        refine Sx.sv F (Sx.d_move F (Or.inr rfl) rfl) (Sx.wanted_none rfl _) rfl (by decide) (fun A F => ?_)
        refine Sx.nil ?_
        refine hK19 _ _ ?_
        refine Sx.plain ?_
        refine Sx.sv F (Sx.d_move F (Or.inl rfl) rfl) (Sx.wanted_none rfl _) rfl (by decide) (fun A F => ?_)
        refine Sx.sv F (Sx.d_bin (v := .int .i64 ((t : Int) - 1)) F rfl rfl rfl (Sx.i_subS (by rw [Sx.in64 _ (by omega)]; omega))) (Sx.wanted_none rfl _) rfl (by decide) (fun A F => ?_)
        refine Sx.sv F (Sx.d_move F (Or.inr rfl) rfl) (Sx.wanted_none rfl _) rfl (by decide) (fun A F => ?_)
        refine Sx.nil ?_
        try dsimp only [Exit.then]
        exact ⟨t, by omega, v4, by omega, F.to ⟨rfl, rfl, rfl, trivial⟩, by rw [hlen', hnew]; exact H.to' [] [0, 1] (by decide) (by decide) rfl rfl⟩
      · rw [if_neg hc0, List.append_nil] at hrel
        have hnew : Dg.ints (Dg.ds (x.toNat / 2 ^ t)) = Dg.ints (pre ++ []) := by rw [hrel, List.append_nil]
        have hlen' : Dg.len (x.toNat / 2 ^ t) = Dg.len (x.toNat / 2 ^ (t + 1)) := by unfold Dg.len at hl ⊢; rw [hrel, hk]; rw [List.length_nil] at hl; omega
        refine Sx.seq (fun K26 hK26 => ?_)
        refine Sx.plain ?_
        refine Sx.sv F (Sx.d_move F (Or.inl rfl) rfl) (Sx.wanted_none rfl _) rfl (by decide) (fun A F => ?_)
        refine Sx.sv F (Sx.d_bin (v := .bool false) F rfl rfl rfl (Sx.i_gt (decide_eq_false (by omega)))) (Sx.wanted_none rfl _) rfl (by decide) (fun A F => ?_)
        refine Sx.nil ?_
        refine hK26 _ _ ?_
        refine Sx.condF F rfl ?_
        refine wp_skip ?_
        refine hK19 _ _ ?_
        refine Sx.plain ?_
        refine Sx.sv F (Sx.d_move F (Or.inl rfl) rfl) (Sx.wanted_none rfl _) rfl (by decide) (fun A F => ?_)
        refine Sx.sv F (Sx.d_bin (v := .int .i64 ((t : Int) - 1)) F rfl rfl rfl (Sx.i_subS (by rw [Sx.in64 _ (by omega)]; omega))) (Sx.wanted_none rfl _) rfl (by decide) (fun A F => ?_)
        refine Sx.sv F (Sx.d_move F (Or.inr rfl) rfl) (Sx.wanted_none rfl _) rfl (by decide) (fun A F => ?_)
        refine Sx.nil ?_
        try dsimp only [Exit.then]
        exact ⟨t, by omega, .slice (some ⟨dg, 0, none⟩) (Dg.len (x.toNat / 2 ^ (t + 1))) dc, by omega, F.to ⟨rfl, rfl, rfl, trivial⟩, by rw [hlen', hnew]; exact H.to' [] [0, 1] (by decide) (by decide) rfl rfl⟩
    · skip
      rw [Dg.dbl] at hrel
      rw [List.length_cons] at hl
      have hd9 := hdig d (List.mem_cons_self ..)
      refine Sx.seq (fun K27 hK27 => ?_)
      refine Sx.seq (fun K28 hK28 => ?_)
      refine Sx.plain ?_
      refine Sx.sv F (Sx.d_move F (Or.inl rfl) rfl) (Sx.wanted_none rfl _) rfl (by decide) (fun A F => ?_)
      refine Sx.sv F (Sx.d_move F (Or.inl rfl) rfl) (Sx.wanted_none rfl _) rfl (by decide) (fun A F => ?_)
      refine Sx.sv F (Sx.d_len (i := 0) el_77 F H rfl rfl rfl) (Sx.wanted_none rfl _) rfl (by decide) (fun A F => ?_)
      refine Sx.sv F (Sx.d_bin (v := .bool true) F rfl rfl rfl (Sx.i_lt (decide_eq_true (by omega)))) (Sx.wanted_none rfl _) rfl (by decide) (fun A F => ?_)
      refine Sx.nil ?_
      refine hK28 _ _ ?_
      refine Sx.condT F rfl ?_
      refine wp_skip ?_
      refine hK27 _ _ ?_
      refine Sx.seq (fun K29 hK29 => ?_)
      refine wp_block ?_
      refine Sx.seq (fun K30 hK30 => ?_)
      refine Sx.plain ?_
      refine Sx.sv F (Sx.d_move F (Or.inl rfl) rfl) (Sx.wanted_none rfl _) rfl (by decide) (fun A F => ?_)
      refine Sx.sv F (Sx.d_move F (Or.inl rfl) rfl) (Sx.wanted_none rfl _) rfl (by decide) (fun A F => ?_)
      refine Sx.sv F (Sx.d_ixR (k := k) el_77 F rfl rfl rfl (rfl) (by omega)) (Sx.wanted_none rfl _) rfl (by decide) (fun A F => ?_)
      refine Sx.sv F (Sx.d_loadR (i := 0) (v := .int .i64 d) one_3 F H rfl rfl rfl (Dg.ints_at pre suf d k hk)) (Sx.wanted_none rfl _) rfl (by decide) (fun A F => ?_)
      refine Sx.sv F (Sx.d_bin (v := .int .i64 (2 * d : Nat)) F rfl rfl rfl (Sx.i_mulN rfl (Sx.in_i64 _ (by omega)))) (Sx.wanted_none rfl _) rfl (by decide) (fun A F => ?_)
      refine Sx.sv F (Sx.d_move F (Or.inl rfl) rfl) (Sx.wanted_none rfl _) rfl (by decide) (fun A F => ?_)
      refine Sx.sv F (Sx.d_bin (v := .int .i64 (2 * d + c : Nat)) F rfl rfl rfl (Sx.i_addN rfl (Sx.in_i64 _ (by omega)))) (Sx.wanted_none rfl _) rfl (by decide) (fun A F => ?_)
      refine Sx.sv F (Sx.d_move F (Or.inr rfl) rfl) (Sx.wanted_none rfl _) rfl (by decide) (fun A F => ?_)
      refine Sx.nil ?_
      refine hK30 _ _ ?_
      refine Sx.seq (fun K31 hK31 => ?_)
      refine Sx.plain ?_
      refine Sx.sv F (Sx.d_move F (Or.inl rfl) rfl) (Sx.wanted_none rfl _) rfl (by decide) (fun A F => ?_)
      refine Sx.sv F (Sx.d_move F (Or.inl rfl) rfl) (Sx.wanted_none rfl _) rfl (by decide) (fun A F => ?_)
      refine Sx.sv F (Sx.d_move F (Or.inl rfl) rfl) (Sx.wanted_none rfl _) rfl (by decide) (fun A F => ?_)
      refine Sx.sv F (Sx.d_bin (v := .int .i64 ((2 * d + c) % 10 : Nat)) F rfl rfl rfl (Sx.i_rem rfl (by decide))) (Sx.wanted_none rfl _) rfl (by decide) (fun A F => ?_)
      refine Sx.sv F (Sx.d_ixR (k := k) el_77 F rfl rfl rfl (rfl) (by omega)) (Sx.wanted_none rfl _) rfl (by decide) (fun A F => ?_)
      refine Sx.ss F (Sx.d_storeR (i := 0) (k := k) sz_3 F H rfl rfl rfl rfl rfl rfl (by omega)) (Sx.wanted_none rfl _) rfl (fun A w F (H : Sx.Own w0 _ [] [⟨true, .slice (some ⟨dg, 0, none⟩) (Dg.len (x.toNat / 2 ^ (t + 1))) dc, 3, 1, (Dg.len (x.toNat / 2 ^ (t + 1))), ((Dg.ints (pre ++ d :: suf)).set k (.int .i64 ((2 * d + c) % 10 : Nat)))⟩, ⟨true, .slice (some ⟨lg, 0, none⟩) 128 lc, 3, 1, 128, (Bi.bis (BitVec.getLsbD x) 128)⟩]) => ?_)
      refine Sx.nil ?_
      refine hK31 _ _ ?_
      refine Sx.plain ?_
      refine Sx.sv F (Sx.d_move F (Or.inl rfl) rfl) (Sx.wanted_none rfl _) rfl (by decide) (fun A F => ?_)
      refine Sx.sv F (Sx.d_bin (v := .int .i64 ((2 * d + c) / 10 : Nat)) F rfl rfl rfl (Sx.i_quoN rfl (by decide) (Sx.in_i64 _ (by omega)))) (Sx.wanted_none rfl _) rfl (by decide) (fun A F => ?_)
      refine Sx.sv F (Sx.d_move F (Or.inr rfl) rfl) (Sx.wanted_none rfl _) rfl (by decide) (fun A F => ?_)
      refine Sx.nil ?_
      refine hK29 _ _ ?_
      refine Sx.plain ?_
      refine Sx.sv F (Sx.d_move F (Or.inl rfl) rfl) (Sx.wanted_none rfl _) rfl (by decide) (fun A F => ?_)
      refine Sx.sv F (Sx.d_bin (v := .int .i64 (k + 1 : Nat)) F rfl rfl rfl (Sx.i_addN rfl (Sx.in_i64 _ (by omega)))) (Sx.wanted_none rfl _) rfl (by decide) (fun A F => ?_)
      refine Sx.sv F (Sx.d_move F (Or.inr rfl) rfl) (Sx.wanted_none rfl _) rfl (by decide) (fun A F => ?_)
      refine Sx.nil ?_
      try dsimp only [Exit.then]
      refine ⟨suf.length, by rw [List.length_cons]; omega, pre ++ [(2 * d + c) % 10], suf, (2 * d + c) / 10, k + 1, rfl, ?_, by omega, by omega, fun e he => hdig e (List.mem_cons_of_mem _ he), ?_, F.to ⟨rfl, rfl, rfl, rfl, rfl, trivial⟩, ?_⟩
      · rw [List.length_append, hk]; rfl
      · rw [hrel, List.append_assoc]; rfl
      · rw [← Dg.ints_set pre suf d _ k hk]; exact H
end Go.Proofs.Ytpbdffmgendboab
