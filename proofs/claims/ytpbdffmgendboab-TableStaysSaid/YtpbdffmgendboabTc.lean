/- What changes a table, walked. -/
import Derived.Test.YtpbdffmgendboabTa
namespace Go.Proofs.Ytpbdffmgendboab
open Go Go.RowKit
set_option maxRecDepth 100000 in
theorem tlay_c (sT : Tb.S) (hok : sT.ok) (h : Int) (x : BitVec 64) (hh : -9223372036854775808 ≤ h ∧ h ≤ 9223372036854775807) (tb : Nat) (v : Value) (w0 w : World) (bs : List Sx.Bx) (rs : List Sx.Rx) {K : Nat → Option Obj}  (H : Sx.Own w0 w ((true, tb, [v, .int .i64 sT.n]) :: bs) (⟨true, v, 107, 2, sT.l.length, (Tb.cells sT.l)⟩ :: rs) K) : Calls Try.prog 64 #[.pointer (some ⟨tb, 0, none⟩), .int .i64 h, .int .u64 x.toNat] w fun e w' => e = .returned (.int .i64 (Tb.S.laye sT h)) ∧ ∃ v', Sx.Own w0 w' ((true, tb, [v', .int .i64 (Tb.S.lay sT h x).n]) :: bs) (⟨true, v', 107, 2, (Tb.S.lay sT h x).l.length, Tb.cells (Tb.S.lay sT h x).l⟩ :: rs) K := by
  refine Sx.enter (args := [.pointer (some ⟨tb, 0, none⟩), .int .i64 h, .int .u64 x.toNat]) Try.func64 rfl Try.ntmps64 (Nat.le_of_ble_eq_true rfl) (fun A F => ?_)
  refine Sx.seq (fun K1 hK1 => ?_)
  refine Sx.plain ?_
  refine Sx.sv F (Sx.d_move F (Or.inr rfl) rfl) (Sx.wanted_none rfl _) rfl (by decide) (fun A F => ?_)
  refine Sx.nil ?_
  refine hK1 _ _ ?_
  by_cases h16 : sT.l.length = 16
  · have e := Tb.lay_full (h := h) x h16
    refine Sx.seq (fun K2 hK2 => ?_)
    refine wp_block ?_
    refine Sx.seq (fun K3 hK3 => ?_)
    refine Sx.plain ?_
    refine Sx.sv F (Sx.d_move F (Or.inl rfl) rfl) (Sx.wanted_none rfl _) rfl (by decide) (fun A F => ?_)
    refine Sx.sv F (Sx.d_nil F rfl rfl) (Sx.wanted_none rfl _) rfl (by decide) (fun A F => ?_)
    refine Sx.sv F (Sx.d_faddr (v := .pointer (some ⟨tb, 0, none⟩)) F rfl rfl (fa_101_0 _ 0 _)) (Sx.wanted_none rfl _) rfl (by decide) (fun A F => ?_)
    refine Sx.sv F (Sx.d_load1 (i := 0) (v := v) one_99 F H rfl rfl rfl rfl) (Sx.wanted_none rfl _) rfl (by decide) (fun A F => ?_)
    refine Sx.sv F (Sx.d_len (i := 0) el_99 F H rfl rfl rfl) (Sx.wanted_none rfl _) rfl (by decide) (fun A F => ?_)
    refine Sx.sv F (Sx.d_bin (v := .bool true) F rfl rfl rfl (Sx.i_eq (beq_iff_eq.2 (by omega)))) (Sx.wanted_none rfl _) rfl (by decide) (fun A F => ?_)
    refine Sx.sv F (Sx.d_move F (Or.inr rfl) rfl) (Sx.wanted_none rfl _) rfl (by decide) (fun A F => ?_)
    refine Sx.nil ?_
    refine hK3 _ _ ?_
    refine Sx.condT F rfl ?_
    refine Sx.seq (fun K4 hK4 => ?_)
    refine Sx.plain ?_
    refine Sx.sv F (Sx.d_move F (Or.inr rfl) rfl) (Sx.wanted_none rfl _) rfl (by decide) (fun A F => ?_)
    refine Sx.nil ?_
    refine hK4 _ _ ?_
    refine wp_ret ?_
    try dsimp only [Exit.then, Exit.inBlock, Exit.jump]
    refine Sx.ret1 F Try.results64 (Sx.res_tmp (v := .int .i64 5) F rfl) ?_
    rw [e.1, e.2]
    exact ⟨rfl, v, H⟩
  · by_cases hk : h < sT.n
    · have e := Tb.lay_arg x h16 (.inl hk)
      refine Sx.seq (fun K5 hK5 => ?_)
      refine wp_block ?_
      refine Sx.seq (fun K6 hK6 => ?_)
      refine Sx.plain ?_
      refine Sx.sv F (Sx.d_move F (Or.inl rfl) rfl) (Sx.wanted_none rfl _) rfl (by decide) (fun A F => ?_)
      refine Sx.sv F (Sx.d_nil F rfl rfl) (Sx.wanted_none rfl _) rfl (by decide) (fun A F => ?_)
      refine Sx.sv F (Sx.d_faddr (v := .pointer (some ⟨tb, 0, none⟩)) F rfl rfl (fa_101_0 _ 0 _)) (Sx.wanted_none rfl _) rfl (by decide) (fun A F => ?_)
      refine Sx.sv F (Sx.d_load1 (i := 0) (v := v) one_99 F H rfl rfl rfl rfl) (Sx.wanted_none rfl _) rfl (by decide) (fun A F => ?_)
      refine Sx.sv F (Sx.d_len (i := 0) el_99 F H rfl rfl rfl) (Sx.wanted_none rfl _) rfl (by decide) (fun A F => ?_)
      refine Sx.sv F (Sx.d_bin (v := .bool false) F rfl rfl rfl (Sx.i_eq (beq_false_of_ne (by omega)))) (Sx.wanted_none rfl _) rfl (by decide) (fun A F => ?_)
      refine Sx.sv F (Sx.d_move F (Or.inr rfl) rfl) (Sx.wanted_none rfl _) rfl (by decide) (fun A F => ?_)
      refine Sx.nil ?_
      refine hK6 _ _ ?_
      refine Sx.condF F rfl ?_
      refine Sx.seq (fun K7 hK7 => ?_)
      refine Sx.plain ?_
      refine Sx.sv F (Sx.d_move F (Or.inl rfl) rfl) (Sx.wanted_none rfl _) rfl (by decide) (fun A F => ?_)
      refine Sx.sv F (Sx.d_move F (Or.inl rfl) rfl) (Sx.wanted_none rfl _) rfl (by decide) (fun A F => ?_)
      refine Sx.sv F (Sx.d_nil F rfl rfl) (Sx.wanted_none rfl _) rfl (by decide) (fun A F => ?_)
      refine Sx.sv F (Sx.d_faddr (v := .pointer (some ⟨tb, 1, none⟩)) F rfl rfl (fa_101_1 _ 0 _)) (Sx.wanted_none rfl _) rfl (by decide) (fun A F => ?_)
      refine Sx.sv F (Sx.d_load1 (i := 0) (v := .int .i64 sT.n) one_3 F H rfl rfl rfl rfl) (Sx.wanted_none rfl _) rfl (by decide) (fun A F => ?_)
      refine Sx.sv F (Sx.d_bin (v := .bool true) F rfl rfl rfl (Sx.i_lt (decide_eq_true hk))) (Sx.wanted_none rfl _) rfl (by decide) (fun A F => ?_)
      refine Sx.sv F (Sx.d_move F (Or.inl rfl) rfl) (Sx.wanted_none rfl _) rfl (by decide) (fun A F => ?_)
      refine Sx.su F (Sx.wanted_off rfl (Sx.guard_known (d := 21) (b := true) F rfl rfl) rfl) rfl (by decide) (fun A F => ?_)
      refine Sx.su F (Sx.wanted_off rfl (Sx.guard_known (d := 21) (b := true) F rfl rfl) rfl) rfl (by decide) (fun A F => ?_)
      refine Sx.sv F (Sx.d_pickT (v := .bool true) F rfl rfl rfl) (Sx.wanted_none rfl _) rfl (by decide) (fun A F => ?_)
      refine Sx.sv F (Sx.d_move F (Or.inr rfl) rfl) (Sx.wanted_none rfl _) rfl (by decide) (fun A F => ?_)
      refine Sx.nil ?_
      refine hK7 _ _ ?_
      refine Sx.condT F rfl ?_
      refine Sx.seq (fun K8 hK8 => ?_)
      refine Sx.plain ?_
      refine Sx.sv F (Sx.d_move F (Or.inr rfl) rfl) (Sx.wanted_none rfl _) rfl (by decide) (fun A F => ?_)
      refine Sx.nil ?_
      refine hK8 _ _ ?_
      refine wp_ret ?_
      try dsimp only [Exit.then, Exit.inBlock, Exit.jump]
      refine Sx.ret1 F Try.results64 (Sx.res_tmp (v := .int .i64 1) F rfl) ?_
      rw [e.1, e.2]
      exact ⟨rfl, v, H⟩
    · by_cases hk2 : h ≥ 2147483647
      · have e := Tb.lay_arg x h16 (.inr hk2)
        refine Sx.seq (fun K9 hK9 => ?_)
        refine wp_block ?_
        refine Sx.seq (fun K10 hK10 => ?_)
        refine Sx.plain ?_
        refine Sx.sv F (Sx.d_move F (Or.inl rfl) rfl) (Sx.wanted_none rfl _) rfl (by decide) (fun A F => ?_)
        refine Sx.sv F (Sx.d_nil F rfl rfl) (Sx.wanted_none rfl _) rfl (by decide) (fun A F => ?_)
        refine Sx.sv F (Sx.d_faddr (v := .pointer (some ⟨tb, 0, none⟩)) F rfl rfl (fa_101_0 _ 0 _)) (Sx.wanted_none rfl _) rfl (by decide) (fun A F => ?_)
        refine Sx.sv F (Sx.d_load1 (i := 0) (v := v) one_99 F H rfl rfl rfl rfl) (Sx.wanted_none rfl _) rfl (by decide) (fun A F => ?_)
        refine Sx.sv F (Sx.d_len (i := 0) el_99 F H rfl rfl rfl) (Sx.wanted_none rfl _) rfl (by decide) (fun A F => ?_)
        refine Sx.sv F (Sx.d_bin (v := .bool false) F rfl rfl rfl (Sx.i_eq (beq_false_of_ne (by omega)))) (Sx.wanted_none rfl _) rfl (by decide) (fun A F => ?_)
        refine Sx.sv F (Sx.d_move F (Or.inr rfl) rfl) (Sx.wanted_none rfl _) rfl (by decide) (fun A F => ?_)
        refine Sx.nil ?_
        refine hK10 _ _ ?_
        refine Sx.condF F rfl ?_
        refine Sx.seq (fun K11 hK11 => ?_)
        refine Sx.plain ?_
        refine Sx.sv F (Sx.d_move F (Or.inl rfl) rfl) (Sx.wanted_none rfl _) rfl (by decide) (fun A F => ?_)
        refine Sx.sv F (Sx.d_move F (Or.inl rfl) rfl) (Sx.wanted_none rfl _) rfl (by decide) (fun A F => ?_)
        refine Sx.sv F (Sx.d_nil F rfl rfl) (Sx.wanted_none rfl _) rfl (by decide) (fun A F => ?_)
        refine Sx.sv F (Sx.d_faddr (v := .pointer (some ⟨tb, 1, none⟩)) F rfl rfl (fa_101_1 _ 0 _)) (Sx.wanted_none rfl _) rfl (by decide) (fun A F => ?_)
        refine Sx.sv F (Sx.d_load1 (i := 0) (v := .int .i64 sT.n) one_3 F H rfl rfl rfl rfl) (Sx.wanted_none rfl _) rfl (by decide) (fun A F => ?_)
        refine Sx.sv F (Sx.d_bin (v := .bool false) F rfl rfl rfl (Sx.i_lt (decide_eq_false hk))) (Sx.wanted_none rfl _) rfl (by decide) (fun A F => ?_)
        refine Sx.sv F (Sx.d_move F (Or.inl rfl) rfl) (Sx.wanted_none rfl _) rfl (by decide) (fun A F => ?_)
        refine Sx.sv F (Sx.d_move F (Or.inl rfl) rfl) (Sx.wanted_on rfl (Sx.guard_known (d := 21) (b := false) F rfl rfl) rfl) rfl (by decide) (fun A F => ?_)
        refine Sx.sv F (Sx.d_bin (v := .bool true) F rfl rfl rfl (Sx.i_ge (decide_eq_true hk2))) (Sx.wanted_on rfl (Sx.guard_known (d := 21) (b := false) F rfl rfl) rfl) rfl (by decide) (fun A F => ?_)
        refine Sx.sv F (Sx.d_pickF (v := .bool true) F rfl rfl rfl) (Sx.wanted_none rfl _) rfl (by decide) (fun A F => ?_)
        refine Sx.sv F (Sx.d_move F (Or.inr rfl) rfl) (Sx.wanted_none rfl _) rfl (by decide) (fun A F => ?_)
        refine Sx.nil ?_
        refine hK11 _ _ ?_
        refine Sx.condT F rfl ?_
        refine Sx.seq (fun K12 hK12 => ?_)
        refine Sx.plain ?_
        refine Sx.sv F (Sx.d_move F (Or.inr rfl) rfl) (Sx.wanted_none rfl _) rfl (by decide) (fun A F => ?_)
        refine Sx.nil ?_
        refine hK12 _ _ ?_
        refine wp_ret ?_
        try dsimp only [Exit.then, Exit.inBlock, Exit.jump]
        refine Sx.ret1 F Try.results64 (Sx.res_tmp (v := .int .i64 1) F rfl) ?_
        rw [e.1, e.2]
        exact ⟨rfl, v, H⟩
      · have e := Tb.lay_good x h16 (show ¬ (h < sT.n ∨ 2147483647 ≤ h) by omega)
        have hn0 := hok.n0
        have hfew := hok.few
        refine Sx.seq (fun K13 hK13 => ?_)
        refine wp_block ?_
        refine Sx.seq (fun K14 hK14 => ?_)
        refine Sx.plain ?_
        refine Sx.sv F (Sx.d_move F (Or.inl rfl) rfl) (Sx.wanted_none rfl _) rfl (by decide) (fun A F => ?_)
        refine Sx.sv F (Sx.d_nil F rfl rfl) (Sx.wanted_none rfl _) rfl (by decide) (fun A F => ?_)
        refine Sx.sv F (Sx.d_faddr (v := .pointer (some ⟨tb, 0, none⟩)) F rfl rfl (fa_101_0 _ 0 _)) (Sx.wanted_none rfl _) rfl (by decide) (fun A F => ?_)
        refine Sx.sv F (Sx.d_load1 (i := 0) (v := v) one_99 F H rfl rfl rfl rfl) (Sx.wanted_none rfl _) rfl (by decide) (fun A F => ?_)
        refine Sx.sv F (Sx.d_len (i := 0) el_99 F H rfl rfl rfl) (Sx.wanted_none rfl _) rfl (by decide) (fun A F => ?_)
        refine Sx.sv F (Sx.d_bin (v := .bool false) F rfl rfl rfl (Sx.i_eq (beq_false_of_ne (by omega)))) (Sx.wanted_none rfl _) rfl (by decide) (fun A F => ?_)
        refine Sx.sv F (Sx.d_move F (Or.inr rfl) rfl) (Sx.wanted_none rfl _) rfl (by decide) (fun A F => ?_)
        refine Sx.nil ?_
        refine hK14 _ _ ?_
        refine Sx.condF F rfl ?_
        refine Sx.seq (fun K15 hK15 => ?_)
        refine Sx.plain ?_
        refine Sx.sv F (Sx.d_move F (Or.inl rfl) rfl) (Sx.wanted_none rfl _) rfl (by decide) (fun A F => ?_)
        refine Sx.sv F (Sx.d_move F (Or.inl rfl) rfl) (Sx.wanted_none rfl _) rfl (by decide) (fun A F => ?_)
        refine Sx.sv F (Sx.d_nil F rfl rfl) (Sx.wanted_none rfl _) rfl (by decide) (fun A F => ?_)
        refine Sx.sv F (Sx.d_faddr (v := .pointer (some ⟨tb, 1, none⟩)) F rfl rfl (fa_101_1 _ 0 _)) (Sx.wanted_none rfl _) rfl (by decide) (fun A F => ?_)
        refine Sx.sv F (Sx.d_load1 (i := 0) (v := .int .i64 sT.n) one_3 F H rfl rfl rfl rfl) (Sx.wanted_none rfl _) rfl (by decide) (fun A F => ?_)
        refine Sx.sv F (Sx.d_bin (v := .bool false) F rfl rfl rfl (Sx.i_lt (decide_eq_false hk))) (Sx.wanted_none rfl _) rfl (by decide) (fun A F => ?_)
        refine Sx.sv F (Sx.d_move F (Or.inl rfl) rfl) (Sx.wanted_none rfl _) rfl (by decide) (fun A F => ?_)
        refine Sx.sv F (Sx.d_move F (Or.inl rfl) rfl) (Sx.wanted_on rfl (Sx.guard_known (d := 21) (b := false) F rfl rfl) rfl) rfl (by decide) (fun A F => ?_)
        refine Sx.sv F (Sx.d_bin (v := .bool false) F rfl rfl rfl (Sx.i_ge (decide_eq_false hk2))) (Sx.wanted_on rfl (Sx.guard_known (d := 21) (b := false) F rfl rfl) rfl) rfl (by decide) (fun A F => ?_)
        refine Sx.sv F (Sx.d_pickF (v := .bool false) F rfl rfl rfl) (Sx.wanted_none rfl _) rfl (by decide) (fun A F => ?_)
        refine Sx.sv F (Sx.d_move F (Or.inr rfl) rfl) (Sx.wanted_none rfl _) rfl (by decide) (fun A F => ?_)
        refine Sx.nil ?_
        refine hK15 _ _ ?_
        refine Sx.condF F rfl ?_
        refine wp_skip ?_
        refine hK13 _ _ ?_
        refine Sx.seq (fun K16 hK16 => ?_)
        refine Sx.plain ?_
        refine Sx.sv F (Sx.d_move F (Or.inl rfl) rfl) (Sx.wanted_none rfl _) rfl (by decide) (fun A F => ?_)
        refine Sx.sv F (Sx.d_move F (Or.inl rfl) rfl) (Sx.wanted_none rfl _) rfl (by decide) (fun A F => ?_)
        refine Sx.sv F (Sx.d_nil F rfl rfl) (Sx.wanted_none rfl _) rfl (by decide) (fun A F => ?_)
        refine Sx.sv F (Sx.d_faddr (v := .pointer (some ⟨tb, 0, none⟩)) F rfl rfl (fa_101_0 _ 0 _)) (Sx.wanted_none rfl _) rfl (by decide) (fun A F => ?_)
        refine Sx.sv F (Sx.d_load1 (i := 0) (v := v) one_99 F H rfl rfl rfl rfl) (Sx.wanted_none rfl _) rfl (by decide) (fun A F => ?_)
        refine Sx.sv F (Sx.d_move F (Or.inl rfl) rfl) (Sx.wanted_none rfl _) rfl (by decide) (fun A F => ?_)
        refine Sx.sv F (Sx.d_move F (Or.inl rfl) rfl) (Sx.wanted_none rfl _) rfl (by decide) (fun A F => ?_)
        refine Sx.sv F (Sx.d_build (qs := #[(0, .int .i64 h), (1, .int .u64 x.toNat)]) (v := .agg #[.int .i64 h, .int .u64 x.toNat]) F rfl rfl (by kernel_rfl)) (Sx.wanted_none rfl _) rfl (by decide) (fun A F => ?_)
        refine Sx.sg (mk := fun g => .slice (some ⟨g, 0, none⟩) 1 1) F (Sx.d_lit (qs := #[(0, .agg #[.int .i64 h, .int .u64 x.toNat])]) (cs := #[.int .i64 h, .int .u64 x.toNat]) (E := 107) F H rfl rfl (fun _ => by kernel_rfl)) (Sx.wanted_none rfl _) rfl (by decide) (fun g1 A w F (H : Sx.Own w0 _ ((true, g1, [.int .i64 h, .int .u64 x.toNat]) :: (true, tb, [v, .int .i64 sT.n]) :: bs) (⟨true, v, 107, 2, sT.l.length, (Tb.cells sT.l)⟩ :: rs) K) => ?_)
        refine Sx.sr (mk := fun v => v) F (Sx.d_append (i := 0) (j := 0) el_99 F H rfl rfl rfl rfl rfl rfl rfl rfl (by omega) (by decide)) (Sx.wanted_none rfl _) rfl (by decide) (fun v1 A w F (H : Sx.Own w0 _ ((true, g1, [.int .i64 h, .int .u64 x.toNat]) :: (true, tb, [v, .int .i64 sT.n]) :: bs) (⟨true, v1, 107, 2, (sT.l.length + 1), (Tb.cells sT.l) ++ [.int .i64 h, .int .u64 x.toNat]⟩ :: rs) K) => ?_)
        refine Sx.sv F (Sx.d_nil F rfl rfl) (Sx.wanted_none rfl _) rfl (by decide) (fun A F => ?_)
        refine Sx.sv F (Sx.d_faddr (v := .pointer (some ⟨tb, 0, none⟩)) F rfl rfl (fa_101_0 _ 0 _)) (Sx.wanted_none rfl _) rfl (by decide) (fun A F => ?_)
        obtain ⟨sad, scap, rfl⟩ := Sx.len_of (k := (sT.l.length + 1)) (Sx.rowEq (v := v1) (H.row 0 _ rfl rfl) rfl rfl rfl rfl rfl)
        refine Sx.ss F (Sx.d_store (i := 1) (xs := [.slice sad (sT.l.length + 1) scap]) (us := [.slice sad (sT.l.length + 1) scap, .int .i64 sT.n]) sz_99 F H rfl rfl rfl rfl rfl rfl rfl (Nat.le_of_ble_eq_true rfl) rfl) (Sx.wanted_none rfl _) rfl (fun A w F (H : Sx.Own w0 _ ((true, g1, [.int .i64 h, .int .u64 x.toNat]) :: (true, tb, [.slice sad (sT.l.length + 1) scap, .int .i64 sT.n]) :: bs) (⟨true, .slice sad (sT.l.length + 1) scap, 107, 2, (sT.l.length + 1), (Tb.cells sT.l) ++ [.int .i64 h, .int .u64 x.toNat]⟩ :: rs) K) => ?_)
        refine Sx.nil ?_
        refine hK16 _ _ ?_
        refine Sx.seq (fun K17 hK17 => ?_)
        refine Sx.plain ?_
        refine Sx.sv F (Sx.d_move F (Or.inl rfl) rfl) (Sx.wanted_none rfl _) rfl (by decide) (fun A F => ?_)
        refine Sx.sv F (Sx.d_move F (Or.inl rfl) rfl) (Sx.wanted_none rfl _) rfl (by decide) (fun A F => ?_)
        refine Sx.sv F (Sx.d_bin (v := .int .i64 (h + 1)) F rfl rfl rfl (Sx.i_addS (Sx.in64 _ (by omega)))) (Sx.wanted_none rfl _) rfl (by decide) (fun A F => ?_)
        refine Sx.sv F (Sx.d_nil F rfl rfl) (Sx.wanted_none rfl _) rfl (by decide) (fun A F => ?_)
        refine Sx.sv F (Sx.d_faddr (v := .pointer (some ⟨tb, 1, none⟩)) F rfl rfl (fa_101_1 _ 0 _)) (Sx.wanted_none rfl _) rfl (by decide) (fun A F => ?_)
        refine Sx.ss F (Sx.d_store (i := 1) (xs := [.int .i64 (h + 1)]) (us := [.slice sad (sT.l.length + 1) scap, .int .i64 (h + 1)]) sz_3 F H rfl rfl rfl rfl rfl rfl rfl (Nat.le_of_ble_eq_true rfl) rfl) (Sx.wanted_none rfl _) rfl (fun A w F (H : Sx.Own w0 _ ((true, g1, [.int .i64 h, .int .u64 x.toNat]) :: (true, tb, [.slice sad (sT.l.length + 1) scap, .int .i64 (h + 1)]) :: bs) (⟨true, .slice sad (sT.l.length + 1) scap, 107, 2, (sT.l.length + 1), (Tb.cells sT.l) ++ [.int .i64 h, .int .u64 x.toNat]⟩ :: rs) K) => ?_)
        refine Sx.nil ?_
        refine hK17 _ _ ?_
        refine Sx.seq (fun K18 hK18 => ?_)
        refine Sx.plain ?_
        refine Sx.sv F (Sx.d_move F (Or.inr rfl) rfl) (Sx.wanted_none rfl _) rfl (by decide) (fun A F => ?_)
        refine Sx.nil ?_
        refine hK18 _ _ ?_
        refine wp_ret ?_
        try dsimp only [Exit.then, Exit.inBlock, Exit.jump]
        refine Sx.ret1 F Try.results64 (Sx.res_tmp (v := .int .i64 0) F rfl) ?_
        rw [e.1, e.2]
        refine ⟨rfl, .slice sad (sT.l.length + 1) scap, ?_⟩
        dsimp only
        rw [List.length_append, List.length_singleton, ← Tb.cells_snoc]
        exact H.tailB
theorem tlay_k (sT : Tb.S) (h : Int) (x : BitVec 64) (hh : -9223372036854775808 ≤ h ∧ h ≤ 9223372036854775807) (hok : sT.ok) (tb : Nat) (v : Value) (w0 w : World) {bs : List Sx.Bx} {rs : List Sx.Rx} {K : Nat → Option Obj} (H : Sx.Own w0 w ((true, tb, [v, .int .i64 sT.n]) :: bs) (⟨true, v, 107, 2, sT.l.length, Tb.cells sT.l⟩ :: rs) K) : Calls Try.prog 64 #[.pointer (some ⟨tb, 0, none⟩), .int .i64 h, .int .u64 x.toNat] w fun e w' => e = .returned (.int .i64 (Tb.S.laye sT h)) ∧ ∃ v', Sx.Own w0 w' ((true, tb, [v', .int .i64 (Tb.S.lay sT h x).n]) :: bs) (⟨true, v', 107, 2, (Tb.S.lay sT h x).l.length, Tb.cells (Tb.S.lay sT h x).l⟩ :: rs) K := tlay_c sT hok h x hh tb v w0 w bs rs H
set_option maxRecDepth 100000 in
theorem tadd_c (sT : Tb.S) (hok : sT.ok) (x : BitVec 64) (tb : Nat) (v : Value) (w0 w : World) (bs : List Sx.Bx) (rs : List Sx.Rx) {K : Nat → Option Obj}  (H : Sx.Own w0 w ((true, tb, [v, .int .i64 sT.n]) :: bs) (⟨true, v, 107, 2, sT.l.length, (Tb.cells sT.l)⟩ :: rs) K) : Calls Try.prog 62 #[.pointer (some ⟨tb, 0, none⟩), .int .u64 x.toNat] w fun e w' => e = .returned (.tuple #[.int .i64 (Tb.S.addh sT), .int .i64 (Tb.S.adde sT)]) ∧ ∃ v', Sx.Own w0 w' ((true, tb, [v', .int .i64 (Tb.S.add sT x).n]) :: bs) (⟨true, v', 107, 2, (Tb.S.add sT x).l.length, Tb.cells (Tb.S.add sT x).l⟩ :: rs) K := by
  refine Sx.enter (args := [.pointer (some ⟨tb, 0, none⟩), .int .u64 x.toNat]) Try.func62 rfl Try.ntmps62 (Nat.le_of_ble_eq_true rfl) (fun A F => ?_)
  refine Sx.seq (fun K1 hK1 => ?_)
  refine Sx.plain ?_
  refine Sx.sv F (Sx.d_move F (Or.inr rfl) rfl) (Sx.wanted_none rfl _) rfl (by decide) (fun A F => ?_)
  refine Sx.sv F (Sx.d_move F (Or.inr rfl) rfl) (Sx.wanted_none rfl _) rfl (by decide) (fun A F => ?_)
  refine Sx.nil ?_
  refine hK1 _ _ ?_
  refine Sx.seq (fun K2 hK2 => ?_)
  refine Sx.plain ?_
  refine Sx.sv F (Sx.d_move F (Or.inl rfl) rfl) (Sx.wanted_none rfl _) rfl (by decide) (fun A F => ?_)
  refine Sx.sv F (Sx.d_nil F rfl rfl) (Sx.wanted_none rfl _) rfl (by decide) (fun A F => ?_)
  refine Sx.sv F (Sx.d_faddr (v := .pointer (some ⟨tb, 1, none⟩)) F rfl rfl (fa_101_1 _ 0 _)) (Sx.wanted_none rfl _) rfl (by decide) (fun A F => ?_)
  refine Sx.sv F (Sx.d_load1 (i := 0) (v := .int .i64 sT.n) one_3 F H rfl rfl rfl rfl) (Sx.wanted_none rfl _) rfl (by decide) (fun A F => ?_)
  refine Sx.sv F (Sx.d_move F (Or.inr rfl) rfl) (Sx.wanted_none rfl _) rfl (by decide) (fun A F => ?_)
  refine Sx.nil ?_
  refine hK2 _ _ ?_
  rcases Tb.add_cases hok x with ⟨h16, e1, e2, e3⟩ | ⟨h16, hn, e1, e2, e3⟩ | ⟨h16, hn, e1, e2, e3⟩
  · skip
    refine Sx.seq (fun K3 hK3 => ?_)
    refine wp_block ?_
    refine Sx.seq (fun K4 hK4 => ?_)
    refine Sx.plain ?_
    refine Sx.sv F (Sx.d_move F (Or.inl rfl) rfl) (Sx.wanted_none rfl _) rfl (by decide) (fun A F => ?_)
    refine Sx.sv F (Sx.d_nil F rfl rfl) (Sx.wanted_none rfl _) rfl (by decide) (fun A F => ?_)
    refine Sx.sv F (Sx.d_faddr (v := .pointer (some ⟨tb, 0, none⟩)) F rfl rfl (fa_101_0 _ 0 _)) (Sx.wanted_none rfl _) rfl (by decide) (fun A F => ?_)
    refine Sx.sv F (Sx.d_load1 (i := 0) (v := v) one_99 F H rfl rfl rfl rfl) (Sx.wanted_none rfl _) rfl (by decide) (fun A F => ?_)
    refine Sx.sv F (Sx.d_len (i := 0) el_99 F H rfl rfl rfl) (Sx.wanted_none rfl _) rfl (by decide) (fun A F => ?_)
    refine Sx.sv F (Sx.d_bin (v := .bool true) F rfl rfl rfl (Sx.i_eq (beq_iff_eq.2 (by omega)))) (Sx.wanted_none rfl _) rfl (by decide) (fun A F => ?_)
    refine Sx.sv F (Sx.d_move F (Or.inr rfl) rfl) (Sx.wanted_none rfl _) rfl (by decide) (fun A F => ?_)
    refine Sx.nil ?_
    refine hK4 _ _ ?_
    refine Sx.condT F rfl ?_
    refine Sx.seq (fun K5 hK5 => ?_)
    refine Sx.plain ?_
    refine Sx.sv F (Sx.d_move F (Or.inr rfl) rfl) (Sx.wanted_none rfl _) rfl (by decide) (fun A F => ?_)
    refine Sx.sv F (Sx.d_move F (Or.inr rfl) rfl) (Sx.wanted_none rfl _) rfl (by decide) (fun A F => ?_)
    refine Sx.nil ?_
    refine hK5 _ _ ?_
    refine wp_ret ?_
    try dsimp only [Exit.then, Exit.inBlock, Exit.jump]
    refine Sx.ret2 F Try.results62 (Sx.res_tmp (v := .int .i64 0) F rfl) (Sx.res_tmp (v := .int .i64 5) F rfl) ?_
    rw [e1, e2, e3]
    exact ⟨rfl, v, H⟩
  · skip
    refine Sx.seq (fun K6 hK6 => ?_)
    refine wp_block ?_
    refine Sx.seq (fun K7 hK7 => ?_)
    refine Sx.plain ?_
    refine Sx.sv F (Sx.d_move F (Or.inl rfl) rfl) (Sx.wanted_none rfl _) rfl (by decide) (fun A F => ?_)
    refine Sx.sv F (Sx.d_nil F rfl rfl) (Sx.wanted_none rfl _) rfl (by decide) (fun A F => ?_)
    refine Sx.sv F (Sx.d_faddr (v := .pointer (some ⟨tb, 0, none⟩)) F rfl rfl (fa_101_0 _ 0 _)) (Sx.wanted_none rfl _) rfl (by decide) (fun A F => ?_)
    refine Sx.sv F (Sx.d_load1 (i := 0) (v := v) one_99 F H rfl rfl rfl rfl) (Sx.wanted_none rfl _) rfl (by decide) (fun A F => ?_)
    refine Sx.sv F (Sx.d_len (i := 0) el_99 F H rfl rfl rfl) (Sx.wanted_none rfl _) rfl (by decide) (fun A F => ?_)
    refine Sx.sv F (Sx.d_bin (v := .bool false) F rfl rfl rfl (Sx.i_eq (beq_false_of_ne (by omega)))) (Sx.wanted_none rfl _) rfl (by decide) (fun A F => ?_)
    refine Sx.sv F (Sx.d_move F (Or.inr rfl) rfl) (Sx.wanted_none rfl _) rfl (by decide) (fun A F => ?_)
    refine Sx.nil ?_
    refine hK7 _ _ ?_
    refine Sx.condF F rfl ?_
    refine Sx.seq (fun K8 hK8 => ?_)
    refine Sx.plain ?_
    refine Sx.sv F (Sx.d_move F (Or.inl rfl) rfl) (Sx.wanted_none rfl _) rfl (by decide) (fun A F => ?_)
    refine Sx.sv F (Sx.d_bin (v := .bool true) F rfl rfl rfl (Sx.i_eq (beq_iff_eq.2 hn))) (Sx.wanted_none rfl _) rfl (by decide) (fun A F => ?_)
    refine Sx.sv F (Sx.d_move F (Or.inr rfl) rfl) (Sx.wanted_none rfl _) rfl (by decide) (fun A F => ?_)
    refine Sx.nil ?_
    refine hK8 _ _ ?_
    refine Sx.condT F rfl ?_
    refine Sx.seq (fun K9 hK9 => ?_)
    refine Sx.plain ?_
    refine Sx.sv F (Sx.d_move F (Or.inr rfl) rfl) (Sx.wanted_none rfl _) rfl (by decide) (fun A F => ?_)
    refine Sx.sv F (Sx.d_move F (Or.inr rfl) rfl) (Sx.wanted_none rfl _) rfl (by decide) (fun A F => ?_)
    refine Sx.nil ?_
    refine hK9 _ _ ?_
    refine wp_ret ?_
    try dsimp only [Exit.then, Exit.inBlock, Exit.jump]
    refine Sx.ret2 F Try.results62 (Sx.res_tmp (v := .int .i64 0) F rfl) (Sx.res_tmp (v := .int .i64 10) F rfl) ?_
    rw [e1, e2, e3]
    exact ⟨rfl, v, H⟩
  · skip
    refine Sx.seq (fun K10 hK10 => ?_)
    refine wp_block ?_
    refine Sx.seq (fun K11 hK11 => ?_)
    refine Sx.plain ?_
    refine Sx.sv F (Sx.d_move F (Or.inl rfl) rfl) (Sx.wanted_none rfl _) rfl (by decide) (fun A F => ?_)
    refine Sx.sv F (Sx.d_nil F rfl rfl) (Sx.wanted_none rfl _) rfl (by decide) (fun A F => ?_)
    refine Sx.sv F (Sx.d_faddr (v := .pointer (some ⟨tb, 0, none⟩)) F rfl rfl (fa_101_0 _ 0 _)) (Sx.wanted_none rfl _) rfl (by decide) (fun A F => ?_)
    refine Sx.sv F (Sx.d_load1 (i := 0) (v := v) one_99 F H rfl rfl rfl rfl) (Sx.wanted_none rfl _) rfl (by decide) (fun A F => ?_)
    refine Sx.sv F (Sx.d_len (i := 0) el_99 F H rfl rfl rfl) (Sx.wanted_none rfl _) rfl (by decide) (fun A F => ?_)
    refine Sx.sv F (Sx.d_bin (v := .bool false) F rfl rfl rfl (Sx.i_eq (beq_false_of_ne (by omega)))) (Sx.wanted_none rfl _) rfl (by decide) (fun A F => ?_)
    refine Sx.sv F (Sx.d_move F (Or.inr rfl) rfl) (Sx.wanted_none rfl _) rfl (by decide) (fun A F => ?_)
    refine Sx.nil ?_
    refine hK11 _ _ ?_
    refine Sx.condF F rfl ?_
    refine Sx.seq (fun K12 hK12 => ?_)
    refine Sx.plain ?_
    refine Sx.sv F (Sx.d_move F (Or.inl rfl) rfl) (Sx.wanted_none rfl _) rfl (by decide) (fun A F => ?_)
    refine Sx.sv F (Sx.d_bin (v := .bool false) F rfl rfl rfl (Sx.i_eq (beq_false_of_ne (by omega)))) (Sx.wanted_none rfl _) rfl (by decide) (fun A F => ?_)
    refine Sx.sv F (Sx.d_move F (Or.inr rfl) rfl) (Sx.wanted_none rfl _) rfl (by decide) (fun A F => ?_)
    refine Sx.nil ?_
    refine hK12 _ _ ?_
    refine Sx.condF F rfl ?_
    refine wp_skip ?_
    refine hK10 _ _ ?_
    refine Sx.seq (fun K13 hK13 => ?_)
    refine Sx.plain ?_
    refine Sx.sv F (Sx.d_move F (Or.inl rfl) rfl) (Sx.wanted_none rfl _) rfl (by decide) (fun A F => ?_)
    refine Sx.sv F (Sx.d_move F (Or.inl rfl) rfl) (Sx.wanted_none rfl _) rfl (by decide) (fun A F => ?_)
    refine Sx.sv F (Sx.d_move F (Or.inl rfl) rfl) (Sx.wanted_none rfl _) rfl (by decide) (fun A F => ?_)
    refine Sx.sv F (Sx.d_move F (Or.inl rfl) rfl) (Sx.wanted_none rfl _) rfl (by decide) (fun A F => ?_)
    refine Sx.so (x := .int .i64 (Tb.S.laye sT sT.n)) F (Sx.d_callO (vs := [.pointer (some ⟨tb, 0, none⟩), .int .i64 sT.n, .int .u64 x.toNat]) if_64 F rfl rfl (Sx.oo (tlay_k sT sT.n x (by have := hok.n0; have := hok.n1; omega) hok _ _ _ _ H))) (Sx.wanted_none rfl _) rfl (by decide) (fun v1 A w F (H : Sx.Own w0 _ ((true, tb, [v1, .int .i64 ((Tb.S.lay sT sT.n x).n)]) :: bs) (⟨true, v1, 107, 2, (Tb.S.lay sT sT.n x).l.length, (Tb.cells (Tb.S.lay sT sT.n x).l)⟩ :: rs) K) => ?_)
    refine Sx.sv F (Sx.d_move F (Or.inr rfl) rfl) (Sx.wanted_none rfl _) rfl (by decide) (fun A F => ?_)
    refine Sx.sv F (Sx.d_move F (Or.inr rfl) rfl) (Sx.wanted_none rfl _) rfl (by decide) (fun A F => ?_)
    refine Sx.nil ?_
    refine hK13 _ _ ?_
    refine wp_ret ?_
    try dsimp only [Exit.then, Exit.inBlock, Exit.jump]
    refine Sx.ret2 F Try.results62 (Sx.res_tmp (v := .int .i64 sT.n) F rfl) (Sx.res_tmp (v := .int .i64 (Tb.S.laye sT sT.n)) F rfl) ?_
    rw [e1, e2, ← e3]
    exact ⟨rfl, v1, H⟩
theorem tadd_k (sT : Tb.S) (x : BitVec 64) (hok : sT.ok) (tb : Nat) (v : Value) (w0 w : World) {bs : List Sx.Bx} {rs : List Sx.Rx} {K : Nat → Option Obj} (H : Sx.Own w0 w ((true, tb, [v, .int .i64 sT.n]) :: bs) (⟨true, v, 107, 2, sT.l.length, Tb.cells sT.l⟩ :: rs) K) : Calls Try.prog 62 #[.pointer (some ⟨tb, 0, none⟩), .int .u64 x.toNat] w fun e w' => e = .returned (.tuple #[.int .i64 (Tb.S.addh sT), .int .i64 (Tb.S.adde sT)]) ∧ ∃ v', Sx.Own w0 w' ((true, tb, [v', .int .i64 (Tb.S.add sT x).n]) :: bs) (⟨true, v', 107, 2, (Tb.S.add sT x).l.length, Tb.cells (Tb.S.add sT x).l⟩ :: rs) K := tadd_c sT hok x tb v w0 w bs rs H
set_option maxRecDepth 100000 in
theorem tgoes_c (sT : Tb.S) (hok : sT.ok) (m : Int) (tb : Nat) (v : Value) (w0 w : World) (bs : List Sx.Bx) (rs : List Sx.Rx) {K : Nat → Option Obj}  (H : Sx.Own w0 w ((true, tb, [v, .int .i64 sT.n]) :: bs) (⟨true, v, 107, 2, sT.l.length, (Tb.cells sT.l)⟩ :: rs) K) : Calls Try.prog 65 #[.pointer (some ⟨tb, 0, none⟩), .int .i64 m] w fun e w' => e = .returned (.int .i64 (Tb.S.goese sT m)) ∧ ∃ v', Sx.Own w0 w' ((true, tb, [v', .int .i64 (Tb.S.goes sT m).n]) :: bs) (⟨true, v', 107, 2, (Tb.S.goes sT m).l.length, Tb.cells (Tb.S.goes sT m).l⟩ :: rs) K := by
  refine Sx.enter (args := [.pointer (some ⟨tb, 0, none⟩), .int .i64 m]) Try.func65 rfl Try.ntmps65 (Nat.le_of_ble_eq_true rfl) (fun A F => ?_)
  refine Sx.seq (fun K1 hK1 => ?_)
  refine Sx.plain ?_
  refine Sx.sv F (Sx.d_move F (Or.inr rfl) rfl) (Sx.wanted_none rfl _) rfl (by decide) (fun A F => ?_)
  refine Sx.nil ?_
  refine hK1 _ _ ?_
  by_cases hk : m < sT.n
  · have e : sT.goese m = 1 := if_pos (.inl hk)
    refine Sx.seq (fun K2 hK2 => ?_)
    refine Sx.seq (fun K3 hK3 => ?_)
    refine Sx.plain ?_
    refine Sx.sv F (Sx.d_move F (Or.inl rfl) rfl) (Sx.wanted_none rfl _) rfl (by decide) (fun A F => ?_)
    refine Sx.sv F (Sx.d_move F (Or.inl rfl) rfl) (Sx.wanted_none rfl _) rfl (by decide) (fun A F => ?_)
    refine Sx.sv F (Sx.d_nil F rfl rfl) (Sx.wanted_none rfl _) rfl (by decide) (fun A F => ?_)
    refine Sx.sv F (Sx.d_faddr (v := .pointer (some ⟨tb, 1, none⟩)) F rfl rfl (fa_101_1 _ 0 _)) (Sx.wanted_none rfl _) rfl (by decide) (fun A F => ?_)
    refine Sx.sv F (Sx.d_load1 (i := 0) (v := .int .i64 sT.n) one_3 F H rfl rfl rfl rfl) (Sx.wanted_none rfl _) rfl (by decide) (fun A F => ?_)
    refine Sx.sv F (Sx.d_bin (v := .bool true) F rfl rfl rfl (Sx.i_lt (decide_eq_true hk))) (Sx.wanted_none rfl _) rfl (by decide) (fun A F => ?_)
    refine Sx.sv F (Sx.d_move F (Or.inl rfl) rfl) (Sx.wanted_none rfl _) rfl (by decide) (fun A F => ?_)
    refine Sx.su F (Sx.wanted_off rfl (Sx.guard_known (d := 11) (b := true) F rfl rfl) rfl) rfl (by decide) (fun A F => ?_)
    refine Sx.su F (Sx.wanted_off rfl (Sx.guard_known (d := 11) (b := true) F rfl rfl) rfl) rfl (by decide) (fun A F => ?_)
    refine Sx.sv F (Sx.d_pickT (v := .bool true) F rfl rfl rfl) (Sx.wanted_none rfl _) rfl (by decide) (fun A F => ?_)
    refine Sx.nil ?_
    refine hK3 _ _ ?_
    refine Sx.condT F rfl ?_
    refine Sx.seq (fun K4 hK4 => ?_)
    refine Sx.plain ?_
    refine Sx.sv F (Sx.d_move F (Or.inr rfl) rfl) (Sx.wanted_none rfl _) rfl (by decide) (fun A F => ?_)
    refine Sx.nil ?_
    refine hK4 _ _ ?_
    refine wp_ret ?_
    try dsimp only [Exit.then, Exit.inBlock, Exit.jump]
    refine Sx.ret1 F Try.results65 (Sx.res_tmp (v := .int .i64 1) F rfl) ?_
    unfold Tb.S.goes
    rw [e, if_neg (by decide)]
    exact ⟨rfl, v, H⟩
  · by_cases hk2 : m > 2147483647
    · have e : sT.goese m = 1 := if_pos (.inr hk2)
      refine Sx.seq (fun K5 hK5 => ?_)
      refine Sx.seq (fun K6 hK6 => ?_)
      refine Sx.plain ?_
      refine Sx.sv F (Sx.d_move F (Or.inl rfl) rfl) (Sx.wanted_none rfl _) rfl (by decide) (fun A F => ?_)
      refine Sx.sv F (Sx.d_move F (Or.inl rfl) rfl) (Sx.wanted_none rfl _) rfl (by decide) (fun A F => ?_)
      refine Sx.sv F (Sx.d_nil F rfl rfl) (Sx.wanted_none rfl _) rfl (by decide) (fun A F => ?_)
      refine Sx.sv F (Sx.d_faddr (v := .pointer (some ⟨tb, 1, none⟩)) F rfl rfl (fa_101_1 _ 0 _)) (Sx.wanted_none rfl _) rfl (by decide) (fun A F => ?_)
      refine Sx.sv F (Sx.d_load1 (i := 0) (v := .int .i64 sT.n) one_3 F H rfl rfl rfl rfl) (Sx.wanted_none rfl _) rfl (by decide) (fun A F => ?_)
      refine Sx.sv F (Sx.d_bin (v := .bool false) F rfl rfl rfl (Sx.i_lt (decide_eq_false hk))) (Sx.wanted_none rfl _) rfl (by decide) (fun A F => ?_)
      refine Sx.sv F (Sx.d_move F (Or.inl rfl) rfl) (Sx.wanted_none rfl _) rfl (by decide) (fun A F => ?_)
      refine Sx.sv F (Sx.d_move F (Or.inl rfl) rfl) (Sx.wanted_on rfl (Sx.guard_known (d := 11) (b := false) F rfl rfl) rfl) rfl (by decide) (fun A F => ?_)
      refine Sx.sv F (Sx.d_bin (v := .bool true) F rfl rfl rfl (Sx.i_gt (decide_eq_true hk2))) (Sx.wanted_on rfl (Sx.guard_known (d := 11) (b := false) F rfl rfl) rfl) rfl (by decide) (fun A F => ?_)
      refine Sx.sv F (Sx.d_pickF (v := .bool true) F rfl rfl rfl) (Sx.wanted_none rfl _) rfl (by decide) (fun A F => ?_)
      refine Sx.nil ?_
      refine hK6 _ _ ?_
      refine Sx.condT F rfl ?_
      refine Sx.seq (fun K7 hK7 => ?_)
      refine Sx.plain ?_
      refine Sx.sv F (Sx.d_move F (Or.inr rfl) rfl) (Sx.wanted_none rfl _) rfl (by decide) (fun A F => ?_)
      refine Sx.nil ?_
      refine hK7 _ _ ?_
      refine wp_ret ?_
      try dsimp only [Exit.then, Exit.inBlock, Exit.jump]
      refine Sx.ret1 F Try.results65 (Sx.res_tmp (v := .int .i64 1) F rfl) ?_
      unfold Tb.S.goes
      rw [e, if_neg (by decide)]
      exact ⟨rfl, v, H⟩
    · have e : sT.goese m = 0 := if_neg (show ¬ (m < sT.n ∨ 2147483647 < m) by omega)
      refine Sx.seq (fun K8 hK8 => ?_)
      refine Sx.seq (fun K9 hK9 => ?_)
      refine Sx.plain ?_
      refine Sx.sv F (Sx.d_move F (Or.inl rfl) rfl) (Sx.wanted_none rfl _) rfl (by decide) (fun A F => ?_)
      refine Sx.sv F (Sx.d_move F (Or.inl rfl) rfl) (Sx.wanted_none rfl _) rfl (by decide) (fun A F => ?_)
      refine Sx.sv F (Sx.d_nil F rfl rfl) (Sx.wanted_none rfl _) rfl (by decide) (fun A F => ?_)
      refine Sx.sv F (Sx.d_faddr (v := .pointer (some ⟨tb, 1, none⟩)) F rfl rfl (fa_101_1 _ 0 _)) (Sx.wanted_none rfl _) rfl (by decide) (fun A F => ?_)
      refine Sx.sv F (Sx.d_load1 (i := 0) (v := .int .i64 sT.n) one_3 F H rfl rfl rfl rfl) (Sx.wanted_none rfl _) rfl (by decide) (fun A F => ?_)
      refine Sx.sv F (Sx.d_bin (v := .bool false) F rfl rfl rfl (Sx.i_lt (decide_eq_false hk))) (Sx.wanted_none rfl _) rfl (by decide) (fun A F => ?_)
      refine Sx.sv F (Sx.d_move F (Or.inl rfl) rfl) (Sx.wanted_none rfl _) rfl (by decide) (fun A F => ?_)
      refine Sx.sv F (Sx.d_move F (Or.inl rfl) rfl) (Sx.wanted_on rfl (Sx.guard_known (d := 11) (b := false) F rfl rfl) rfl) rfl (by decide) (fun A F => ?_)
      refine Sx.sv F (Sx.d_bin (v := .bool false) F rfl rfl rfl (Sx.i_gt (decide_eq_false hk2))) (Sx.wanted_on rfl (Sx.guard_known (d := 11) (b := false) F rfl rfl) rfl) rfl (by decide) (fun A F => ?_)
      refine Sx.sv F (Sx.d_pickF (v := .bool false) F rfl rfl rfl) (Sx.wanted_none rfl _) rfl (by decide) (fun A F => ?_)
      refine Sx.nil ?_
      refine hK9 _ _ ?_
      refine Sx.condF F rfl ?_
      refine wp_skip ?_
      refine hK8 _ _ ?_
      refine Sx.seq (fun K10 hK10 => ?_)
      refine Sx.plain ?_
      refine Sx.sv F (Sx.d_move F (Or.inl rfl) rfl) (Sx.wanted_none rfl _) rfl (by decide) (fun A F => ?_)
      refine Sx.sv F (Sx.d_move F (Or.inl rfl) rfl) (Sx.wanted_none rfl _) rfl (by decide) (fun A F => ?_)
      refine Sx.sv F (Sx.d_nil F rfl rfl) (Sx.wanted_none rfl _) rfl (by decide) (fun A F => ?_)
      refine Sx.sv F (Sx.d_faddr (v := .pointer (some ⟨tb, 1, none⟩)) F rfl rfl (fa_101_1 _ 0 _)) (Sx.wanted_none rfl _) rfl (by decide) (fun A F => ?_)
      refine Sx.ss F (Sx.d_store (i := 0) (xs := [.int .i64 m]) (us := [v, .int .i64 m]) sz_3 F H rfl rfl rfl rfl rfl rfl rfl (Nat.le_of_ble_eq_true rfl) rfl) (Sx.wanted_none rfl _) rfl (fun A w F (H : Sx.Own w0 _ ((true, tb, [v, .int .i64 m]) :: bs) (⟨true, v, 107, 2, sT.l.length, (Tb.cells sT.l)⟩ :: rs) K) => ?_)
      refine Sx.nil ?_
      refine hK10 _ _ ?_
      refine Sx.seq (fun K11 hK11 => ?_)
      refine Sx.plain ?_
      refine Sx.sv F (Sx.d_move F (Or.inr rfl) rfl) (Sx.wanted_none rfl _) rfl (by decide) (fun A F => ?_)
      refine Sx.nil ?_
      refine hK11 _ _ ?_
      refine wp_ret ?_
      try dsimp only [Exit.then, Exit.inBlock, Exit.jump]
      refine Sx.ret1 F Try.results65 (Sx.res_tmp (v := .int .i64 0) F rfl) ?_
      unfold Tb.S.goes
      rw [e, if_pos rfl]
      exact ⟨rfl, v, H⟩
theorem tgoes_k (sT : Tb.S) (m : Int) (hok : sT.ok) (tb : Nat) (v : Value) (w0 w : World) {bs : List Sx.Bx} {rs : List Sx.Rx} {K : Nat → Option Obj} (H : Sx.Own w0 w ((true, tb, [v, .int .i64 sT.n]) :: bs) (⟨true, v, 107, 2, sT.l.length, Tb.cells sT.l⟩ :: rs) K) : Calls Try.prog 65 #[.pointer (some ⟨tb, 0, none⟩), .int .i64 m] w fun e w' => e = .returned (.int .i64 (Tb.S.goese sT m)) ∧ ∃ v', Sx.Own w0 w' ((true, tb, [v', .int .i64 (Tb.S.goes sT m).n]) :: bs) (⟨true, v', 107, 2, (Tb.S.goes sT m).l.length, Tb.cells (Tb.S.goes sT m).l⟩ :: rs) K := tgoes_c sT hok m tb v w0 w bs rs H
end Go.Proofs.Ytpbdffmgendboab
