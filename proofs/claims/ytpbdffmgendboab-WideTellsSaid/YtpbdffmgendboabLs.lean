/- The reference's Bits, List walked. -/
import Derived.Test.YtpbdffmgendboabSl3
import Derived.Test.YtpbdffmgendboabR1
namespace Go.Proofs.Ytpbdffmgendboab
open Go Go.RowKit
set_option maxRecDepth 100000 in
theorem rbits_c (x : BitVec 64) (w0 : World) : Calls Try.prog 58 #[.int .u64 x.toNat] w0 fun e w' => ∃ v, e = .returned v ∧ w'.ownsRow w0.heap.size 3 1 v 64 (Bi.bis (BitVec.getLsbD x) 64) ∧ Below w0.heap.size w0 w' := by
  refine Sx.enter (args := [.int .u64 x.toNat]) Try.func58 rfl Try.ntmps58 (Nat.le_of_ble_eq_true rfl) (fun A F => ?_)
  have H := Sx.Own.start w0
  refine Sx.seq (fun K1 hK1 => ?_)
  refine Sx.plain ?_
  refine Sx.sv F (Sx.d_move F (Or.inr rfl) rfl) (Sx.wanted_none rfl _) rfl (by decide) (fun A F => ?_)
  refine Sx.nil ?_
  refine hK1 _ _ ?_
  refine Sx.seq (fun K2 hK2 => ?_)
  refine Sx.plain ?_
  refine Sx.sr (mk := fun v => v) F (Sx.d_litR (qs := #[]) (cs := #[]) (E := 3) (z := 1) F H rfl rfl (fun _ => by kernel_rfl) rfl (by decide)) (Sx.wanted_none rfl _) rfl (by decide) (fun v1 A w F (H : Sx.Own w0 _ [] [⟨true, v1, 3, 1, 0, []⟩]) => ?_)
  refine Sx.sv F (Sx.d_move F (Or.inr rfl) rfl) (Sx.wanted_none rfl _) rfl (by decide) (fun A F => ?_)
  refine Sx.nil ?_
  refine hK2 _ _ ?_
  refine Sx.seq (fun K3 hK3 => ?_)
  refine Sx.seq (fun K4 hK4 => ?_)
  refine Sx.plain ?_
  refine Sx.sv F (Sx.d_move F (Or.inr rfl) rfl) (Sx.wanted_none rfl _) rfl (by decide) (fun A F => ?_)
  refine Sx.nil ?_
  refine hK4 _ _ ?_
  refine wp_block ?_
  have F := Sx.Fr.to F (kv' := [(0, .int .u64 (x >>> 0).toNat), (3, v1), (4, .int .i64 (0 : Nat))]) ⟨by rw [BitVec.ushiftRight_zero]; rfl, rfl, rfl, trivial⟩
  refine Sx.loop (fun q A w => ∃ (i : Nat) (v : Value), q = 64 - i ∧ i ≤ 64 ∧ Sx.Fr 19 A [(0, .int .u64 ((x >>> i).toNat)), (3, v), (4, .int .i64 i)] ∧ Sx.Own w0 w [] [⟨true, v, 3, 1, i, (Bi.bis (BitVec.getLsbD x) i)⟩]) 64 ⟨0, v1, rfl, Nat.zero_le _, F, H⟩ ?_
  rintro q A w ⟨i, v, rfl, hi, F, H⟩
  by_cases hlt : i < 64
  · skip
    refine Sx.seq (fun K5 hK5 => ?_)
    refine Sx.seq (fun K6 hK6 => ?_)
    refine Sx.plain ?_
    refine Sx.sv F (Sx.d_move F (Or.inl rfl) rfl) (Sx.wanted_none rfl _) rfl (by decide) (fun A F => ?_)
    refine Sx.sv F (Sx.d_bin (v := .bool true) F rfl rfl rfl (Sx.i_lt (decide_eq_true (by omega)))) (Sx.wanted_none rfl _) rfl (by decide) (fun A F => ?_)
    refine Sx.nil ?_
    refine hK6 _ _ ?_
    refine Sx.condT F rfl ?_
    refine wp_skip ?_
    refine hK5 _ _ ?_
    refine Sx.seq (fun K7 hK7 => ?_)
    refine wp_block ?_
    refine Sx.seq (fun K8 hK8 => ?_)
    refine Sx.plain ?_
    refine Sx.sv F (Sx.d_move F (Or.inl rfl) rfl) (Sx.wanted_none rfl _) rfl (by decide) (fun A F => ?_)
    refine Sx.sv F (Sx.d_move F (Or.inl rfl) rfl) (Sx.wanted_none rfl _) rfl (by decide) (fun A F => ?_)
    refine Sx.sv F (Sx.d_bin (v := .int .u64 (((x >>> i) % 2#64).toNat)) F rfl rfl rfl (Sx.i_rem64 (x >>> i) 2#64 (by decide))) (Sx.wanted_none rfl _) rfl (by decide) (fun A F => ?_)
    refine Sx.sv F (Sx.d_conv (v := .int .i64 ((x.getLsbD i).toNat)) F rfl rfl (Sx.c_u64_i64 _ _ (Bi.bit x i) (by have := Bi.bl (x.getLsbD i); omega))) (Sx.wanted_none rfl _) rfl (by decide) (fun A F => ?_)
    refine Sx.sg (mk := fun g => .slice (some ⟨g, 0, none⟩) 1 1) F (Sx.d_lit (qs := #[(0, .int .i64 ((x.getLsbD i).toNat))]) (cs := #[.int .i64 ((x.getLsbD i).toNat)]) (E := 3) F H rfl rfl (fun _ => by kernel_rfl)) (Sx.wanted_none rfl _) rfl (by decide) (fun g1 A w F (H : Sx.Own w0 _ [(true, g1, [.int .i64 ((x.getLsbD i).toNat)])] [⟨true, v, 3, 1, i, (Bi.bis (BitVec.getLsbD x) i)⟩]) => ?_)
    refine Sx.sr (mk := fun v => v) F (Sx.d_append (i := 0) (j := 0) el_77 F H rfl rfl rfl rfl rfl rfl rfl rfl (by omega) (by decide)) (Sx.wanted_none rfl _) rfl (by decide) (fun v2 A w F (H : Sx.Own w0 _ [(true, g1, [.int .i64 ((x.getLsbD i).toNat)])] [⟨true, v2, 3, 1, (i + 1), (Bi.bis (BitVec.getLsbD x) i) ++ [.int .i64 ((x.getLsbD i).toNat)]⟩]) => ?_)
    refine Sx.sv F (Sx.d_move F (Or.inr rfl) rfl) (Sx.wanted_none rfl _) rfl (by decide) (fun A F => ?_)
    refine Sx.nil ?_
    refine hK8 _ _ ?_
    refine Sx.plain ?_
    refine Sx.sv F (Sx.d_move F (Or.inl rfl) rfl) (Sx.wanted_none rfl _) rfl (by decide) (fun A F => ?_)
    refine Sx.sv F (Sx.d_bin (v := .int .u64 ((x >>> (i + 1)).toNat)) F rfl rfl rfl (Sx.i_half x i)) (Sx.wanted_none rfl _) rfl (by decide) (fun A F => ?_)
    refine Sx.sv F (Sx.d_move F (Or.inr rfl) rfl) (Sx.wanted_none rfl _) rfl (by decide) (fun A F => ?_)
    refine Sx.nil ?_
    refine hK7 _ _ ?_
    refine Sx.plain ?_
    refine Sx.sv F (Sx.d_move F (Or.inl rfl) rfl) (Sx.wanted_none rfl _) rfl (by decide) (fun A F => ?_)
    refine Sx.sv F (Sx.d_bin (v := .int .i64 (i + 1 : Nat)) F rfl rfl rfl (Sx.i_addN rfl (Sx.in_i64 _ (by omega)))) (Sx.wanted_none rfl _) rfl (by decide) (fun A F => ?_)
    refine Sx.sv F (Sx.d_move F (Or.inr rfl) rfl) (Sx.wanted_none rfl _) rfl (by decide) (fun A F => ?_)
    refine Sx.nil ?_
    try dsimp only [Exit.then]
    exact ⟨64 - (i + 1), by omega, i + 1, v2, rfl, by omega, F.to ⟨rfl, rfl, rfl, trivial⟩, by rw [Bi.snoc]; exact H.to' [] [0] (by decide) (by decide) rfl rfl⟩
  · obtain rfl : i = 64 := by omega
    refine Sx.seq (fun K9 hK9 => ?_)
    refine Sx.seq (fun K10 hK10 => ?_)
    refine Sx.plain ?_
    refine Sx.sv F (Sx.d_move F (Or.inl rfl) rfl) (Sx.wanted_none rfl _) rfl (by decide) (fun A F => ?_)
    refine Sx.sv F (Sx.d_bin (v := .bool false) F rfl rfl rfl (Sx.i_lt (by decide))) (Sx.wanted_none rfl _) rfl (by decide) (fun A F => ?_)
    refine Sx.nil ?_
    refine hK10 _ _ ?_
    refine Sx.condF F rfl ?_
    refine wp_exit ?_
    try dsimp only [Exit.then, Exit.jump]
    refine Sx.exit_here ?_
    refine hK3 _ _ ?_
    refine Sx.seq (fun K11 hK11 => ?_)
    refine Sx.plain ?_
    refine Sx.sv F (Sx.d_move F (Or.inl rfl) rfl) (Sx.wanted_none rfl _) rfl (by decide) (fun A F => ?_)
    refine Sx.sv F (Sx.d_move F (Or.inr rfl) rfl) (Sx.wanted_none rfl _) rfl (by decide) (fun A F => ?_)
    refine Sx.nil ?_
    refine hK11 _ _ ?_
    refine wp_ret ?_
    try dsimp only [Exit.then, Exit.inBlock, Exit.jump]
    refine Sx.ret1 F Try.results58 (Sx.res_tmp (v := v) F rfl) ?_
    exact ⟨_, rfl, H.row 0 _ rfl rfl, H.below⟩
theorem Bi.list (x : BitVec 128) : Bi.bis (BitVec.getLsbD (Wd.lo x)) 64 ++ Bi.bis (BitVec.getLsbD (Wd.hi x)) 64 = Bi.bis (BitVec.getLsbD x) 128 := by
  rw [Bi.app]
  refine Bi.congr (fun i hi => ?_)
  by_cases h : i < 64
  · rw [if_pos h, Wd.lo_bit _ _ h]
  · rw [if_neg h, Wd.hi_bit _ _ (by omega)]; congr 1; omega
set_option maxRecDepth 100000 in
theorem rlist_c (x : BitVec 128) (w0 : World) : Calls Try.prog 61 #[.agg #[.int .u64 ((Wd.hi x).toNat), .int .u64 ((Wd.lo x).toNat)]] w0 fun e w' => ∃ v, e = .returned v ∧ w'.ownsRow w0.heap.size 3 1 v 128 (Bi.bis (BitVec.getLsbD x) 128) ∧ Below w0.heap.size w0 w' := by
  refine Sx.enter (args := [.agg #[.int .u64 ((Wd.hi x).toNat), .int .u64 ((Wd.lo x).toNat)]]) Try.func61 rfl Try.ntmps61 (Nat.le_of_ble_eq_true rfl) (fun A F => ?_)
  have H := Sx.Own.start w0
  refine Sx.seq (fun K1 hK1 => ?_)
  refine Sx.plain ?_
  refine Sx.sb F (Sx.d_box F H rfl rfl [.int .u64 ((Wd.hi x).toNat), .int .u64 ((Wd.lo x).toNat)] rfl) (Sx.wanted_none rfl _) rfl (by decide) (fun g1 A w F H => ?_)
  refine Sx.sv F (Sx.d_move F (Or.inr rfl) rfl) (Sx.wanted_none rfl _) rfl (by decide) (fun A F => ?_)
  refine Sx.nil ?_
  refine hK1 _ _ ?_
  refine Sx.seq (fun K2 hK2 => ?_)
  have F := Sx.Fr.to F (kv' := [(0, .agg #[.int .u64 ((Wd.hi x).toNat), .int .u64 ((Wd.lo x).toNat)]), (1, .pointer (some ⟨g1, 0, none⟩))]) ⟨rfl, rfl, trivial⟩
  refine Sx.drawn F (by kernel_rfl) (by kernel_rfl) (by kernel_rfl) [some (.pointer (some ⟨g1, 1, none⟩)), some (.int .u64 ((Wd.lo x).toNat)), none, some (.pointer (some ⟨g1, 0, none⟩)), some (.int .u64 ((Wd.hi x).toNat)), none, none, none] (fun L A w => ∃ v1 : Value, ∃ v2 : Value, ∃ v3 : Value, (L 2 = true → A.eval (.tmp 5) = v1) ∧ (L 5 = true → A.eval (.tmp 8) = v2) ∧ (L 6 = true → A.eval (.tmp 9) = v3) ∧ (L 7 = true → A.eval (.tmp 2) = v3) ∧ Sx.Own w0 w [(true, g1, [.int .u64 ((Wd.hi x).toNat), .int .u64 ((Wd.lo x).toNat)])] [⟨cond (L 6) false (L 2), v1, 3, 1, 64, (Bi.bis (BitVec.getLsbD (Wd.lo x)) 64)⟩, ⟨L 5, v2, 3, 1, 64, (Bi.bis (BitVec.getLsbD (Wd.hi x)) 64)⟩, ⟨L 6, v3, 3, 1, 128, (Bi.bis (BitVec.getLsbD (Wd.lo x)) 64) ++ (Bi.bis (BitVec.getLsbD (Wd.hi x)) 64)⟩]) ⟨undef, undef, undef, (fun h => by cases h), (fun h => by cases h), (fun h => by cases h), (fun h => by cases h), H.drew.pad [] rfl [⟨false, undef, 3, 1, 64, (Bi.bis (BitVec.getLsbD (Wd.lo x)) 64)⟩, ⟨false, undef, 3, 1, 64, (Bi.bis (BitVec.getLsbD (Wd.hi x)) 64)⟩, ⟨false, undef, 3, 1, 128, (Bi.bis (BitVec.getLsbD (Wd.lo x)) 64) ++ (Bi.bis (BitVec.getLsbD (Wd.hi x)) 64)⟩] rfl⟩ ?_ ?_
  · refine ⟨?_, ?_, ?_, ?_, ?_, ?_, ?_, ?_, trivial⟩
    · show Sx.StepAt _ _ _ _ _ _ _ 0
      intro L A w up hun hd F ⟨v1, v2, v3, p2, p5, p6, p7, H⟩
      have f1 : L 1 = false := up 1 0 rfl hun
      have f2 : L 2 = false := up 2 1 rfl f1
      have f5 : L 5 = false := up 5 2 rfl f2
      have f6 : L 6 = false := up 6 2 rfl f2
      have f7 : L 7 = false := up 7 0 rfl hun
      rw [f2, f5, f6] at H
      have F := Sx.Fr.to F (kv' := [(1, .pointer (some ⟨g1, 0, none⟩))]) ⟨rfl, trivial⟩
      refine Sx.step_on rfl (Sx.d_faddr (v := .pointer (some ⟨g1, 1, none⟩)) F rfl rfl (fa_43_1 _ 0 _)) ?_
      rintro xv w' ⟨hx, rfl⟩
      exact ⟨(fun cv hc => hx.trans (Option.some.inj (Option.some.inj hc))), ⟨v1, v2, v3, (fun h => absurd (show L 2 = true from h) (by rw [f2]; decide)), (fun h => absurd (show L 5 = true from h) (by rw [f5]; decide)), (fun h => absurd (show L 6 = true from h) (by rw [f6]; decide)), (fun h => absurd (show L 7 = true from h) (by rw [f7]; decide)), (by show Sx.Own _ _ _ _; rw [show Inv.add L 0 2 = false from f2, show Inv.add L 0 5 = false from f5, show Inv.add L 0 6 = false from f6]; exact H)⟩⟩
    · show Sx.StepAt _ _ _ _ _ _ _ 1
      intro L A w up hun hd F ⟨v1, v2, v3, p2, p5, p6, p7, H⟩
      have f2 : L 2 = false := up 2 1 rfl hun
      have f5 : L 5 = false := up 5 2 rfl f2
      have f6 : L 6 = false := up 6 2 rfl f2
      have f7 : L 7 = false := up 7 1 rfl hun
      rw [f2, f5, f6] at H
      have F := Sx.Fr.to F (kv' := [(3, .pointer (some ⟨g1, 1, none⟩))]) ⟨rfl, trivial⟩
      refine Sx.step_on rfl (Sx.d_load1 (i := 0) (v := .int .u64 ((Wd.lo x).toNat)) one_22 F H rfl rfl rfl rfl) ?_
      rintro xv w' ⟨hx, rfl⟩
      exact ⟨(fun cv hc => hx.trans (Option.some.inj (Option.some.inj hc))), ⟨v1, v2, v3, (fun h => absurd (show L 2 = true from h) (by rw [f2]; decide)), (fun h => absurd (show L 5 = true from h) (by rw [f5]; decide)), (fun h => absurd (show L 6 = true from h) (by rw [f6]; decide)), (fun h => absurd (show L 7 = true from h) (by rw [f7]; decide)), (by show Sx.Own _ _ _ _; rw [show Inv.add L 1 2 = false from f2, show Inv.add L 1 5 = false from f5, show Inv.add L 1 6 = false from f6]; exact H)⟩⟩
    · show Sx.StepAt _ _ _ _ _ _ _ 2
      intro L A w up hun hd F ⟨v1, v2, v3, p2, p5, p6, p7, H⟩
      have f2 : L 2 = false := hun
      have f5 : L 5 = false := up 5 2 rfl hun
      have f6 : L 6 = false := up 6 2 rfl hun
      have f7 : L 7 = false := up 7 2 rfl hun
      rw [f2, f5, f6] at H
      have F := Sx.Fr.to F (kv' := [(4, .int .u64 ((Wd.lo x).toNat))]) ⟨rfl, trivial⟩
      refine Sx.step_on rfl (Sx.d_callR_at 0 (vs := [.int .u64 ((Wd.lo x).toNat)]) (mk := fun v => v) if_58 F H rfl rfl (rbits_c (Wd.lo x) _)) ?_
      rintro xv w' ⟨v', hx, H⟩
      exact ⟨(fun cv hc => by have h := Option.some.inj hc; cases h), ⟨v', v2, v3, (fun _ => (Sx.put_same F (by decide) _).trans hx), (fun h => absurd (show L 5 = true from h) (by rw [f5]; decide)), (fun h => absurd (show L 6 = true from h) (by rw [f6]; decide)), (fun h => absurd (show L 7 = true from h) (by rw [f7]; decide)), (by show Sx.Own _ _ _ _; rw [show Inv.add L 2 5 = false from f5, show Inv.add L 2 6 = false from f6]; exact H)⟩⟩
    · show Sx.StepAt _ _ _ _ _ _ _ 3
      intro L A w up hun hd F ⟨v1, v2, v3, p2, p5, p6, p7, H⟩
      have f4 : L 4 = false := up 4 3 rfl hun
      have f5 : L 5 = false := up 5 4 rfl f4
      have f6 : L 6 = false := up 6 5 rfl f5
      have f7 : L 7 = false := up 7 3 rfl hun
      rw [f5, f6] at H
      have F := Sx.Fr.to F (kv' := [(1, .pointer (some ⟨g1, 0, none⟩))]) ⟨rfl, trivial⟩
      refine Sx.step_on rfl (Sx.d_faddr (v := .pointer (some ⟨g1, 0, none⟩)) F rfl rfl (fa_43_0 _ 0 _)) ?_
      rintro xv w' ⟨hx, rfl⟩
      exact ⟨(fun cv hc => hx.trans (Option.some.inj (Option.some.inj hc))), ⟨v1, v2, v3, (fun h => (Sx.put_ne rfl _).trans (p2 h)), (fun h => absurd (show L 5 = true from h) (by rw [f5]; decide)), (fun h => absurd (show L 6 = true from h) (by rw [f6]; decide)), (fun h => absurd (show L 7 = true from h) (by rw [f7]; decide)), (by show Sx.Own _ _ _ _; rw [show Inv.add L 3 5 = false from f5, show Inv.add L 3 6 = false from f6]; exact H)⟩⟩
    · show Sx.StepAt _ _ _ _ _ _ _ 4
      intro L A w up hun hd F ⟨v1, v2, v3, p2, p5, p6, p7, H⟩
      have f5 : L 5 = false := up 5 4 rfl hun
      have f6 : L 6 = false := up 6 5 rfl f5
      have f7 : L 7 = false := up 7 4 rfl hun
      rw [f5, f6] at H
      have F := Sx.Fr.to F (kv' := [(6, .pointer (some ⟨g1, 0, none⟩))]) ⟨rfl, trivial⟩
      refine Sx.step_on rfl (Sx.d_load1 (i := 0) (v := .int .u64 ((Wd.hi x).toNat)) one_22 F H rfl rfl rfl rfl) ?_
      rintro xv w' ⟨hx, rfl⟩
      exact ⟨(fun cv hc => hx.trans (Option.some.inj (Option.some.inj hc))), ⟨v1, v2, v3, (fun h => (Sx.put_ne rfl _).trans (p2 h)), (fun h => absurd (show L 5 = true from h) (by rw [f5]; decide)), (fun h => absurd (show L 6 = true from h) (by rw [f6]; decide)), (fun h => absurd (show L 7 = true from h) (by rw [f7]; decide)), (by show Sx.Own _ _ _ _; rw [show Inv.add L 4 5 = false from f5, show Inv.add L 4 6 = false from f6]; exact H)⟩⟩
    · show Sx.StepAt _ _ _ _ _ _ _ 5
      intro L A w up hun hd F ⟨v1, v2, v3, p2, p5, p6, p7, H⟩
      have t2 : L 2 = true := hd 2 rfl
      have f5 : L 5 = false := hun
      have f6 : L 6 = false := up 6 5 rfl hun
      have f7 : L 7 = false := up 7 5 rfl hun
      rw [t2, f5, f6] at H
      have F := Sx.Fr.to F (kv' := [(7, .int .u64 ((Wd.hi x).toNat))]) ⟨rfl, trivial⟩
      have F := Sx.Fr.add F (p2 t2)
      refine Sx.step_on rfl (Sx.d_callR_at 1 (vs := [.int .u64 ((Wd.hi x).toNat)]) (mk := fun v => v) if_58 F H rfl rfl (rbits_c (Wd.hi x) _)) ?_
      rintro xv w' ⟨v', hx, H⟩
      exact ⟨(fun cv hc => by have h := Option.some.inj hc; cases h), ⟨v1, v', v3, (fun h => (Sx.put_ne rfl _).trans (p2 h)), (fun _ => (Sx.put_same F (by decide) _).trans hx), (fun h => absurd (show L 6 = true from h) (by rw [f6]; decide)), (fun h => absurd (show L 7 = true from h) (by rw [f7]; decide)), (by show Sx.Own _ _ _ _; rw [show Inv.add L 5 2 = true from t2, show Inv.add L 5 6 = false from f6]; exact H)⟩⟩
    · show Sx.StepAt _ _ _ _ _ _ _ 6
      intro L A w up hun hd F ⟨v1, v2, v3, p2, p5, p6, p7, H⟩
      have t2 : L 2 = true := hd 2 rfl
      have t5 : L 5 = true := hd 5 rfl
      have f6 : L 6 = false := hun
      have f7 : L 7 = false := up 7 6 rfl hun
      rw [t2, t5, f6] at H
      have F := Sx.Fr.to F (kv' := []) trivial
      have F := Sx.Fr.add F (p2 t2)
      have F := Sx.Fr.add F (p5 t5)
      refine Sx.step_on rfl (Sx.d_appendR_mv (jn := 2) (i := 0) (j := 1) el_77 F H rfl rfl rfl rfl rfl (Bi.ones _ _) rfl (by omega) (by decide) (by decide) rfl) ?_
      rintro xv w' ⟨v', hx, H⟩
      exact ⟨(fun cv hc => by have h := Option.some.inj hc; cases h), ⟨v1, v2, v', (fun h => (Sx.put_ne rfl _).trans (p2 h)), (fun h => (Sx.put_ne rfl _).trans (p5 h)), (fun _ => (Sx.put_same F (by decide) _).trans hx), (fun h => absurd (show L 7 = true from h) (by rw [f7]; decide)), (by show Sx.Own _ _ _ _; rw [show Inv.add L 6 2 = true from t2, show Inv.add L 6 5 = true from t5]; exact H)⟩⟩
    · show Sx.StepAt _ _ _ _ _ _ _ 7
      intro L A w up hun hd F ⟨v1, v2, v3, p2, p5, p6, p7, H⟩
      have t2 : L 2 = true := hd 2 rfl
      have t5 : L 5 = true := hd 5 rfl
      have t6 : L 6 = true := hd 6 rfl
      have f7 : L 7 = false := hun
      rw [t2, t5, t6] at H
      have F := Sx.Fr.to F (kv' := []) trivial
      have F := Sx.Fr.add F (p2 t2)
      have F := Sx.Fr.add F (p5 t5)
      have F := Sx.Fr.add F (p6 t6)
      refine Sx.step_on rfl (Sx.d_move F (Or.inr rfl) rfl) ?_
      rintro xv w' ⟨hx, rfl⟩
      exact ⟨(fun cv hc => by have h := Option.some.inj hc; cases h), ⟨v1, v2, v3, (fun h => (Sx.put_ne rfl _).trans (p2 h)), (fun h => (Sx.put_ne rfl _).trans (p5 h)), (fun h => (Sx.put_ne rfl _).trans (p6 h)), (fun _ => (Sx.put_same F (by decide) _).trans hx), (by show Sx.Own _ _ _ _; rw [show Inv.add L 7 2 = true from t2, show Inv.add L 7 5 = true from t5, show Inv.add L 7 6 = true from t6]; exact H)⟩⟩
  · intro L A w hL F ⟨v1, v2, v3, p2, p5, p6, p7, H⟩
    have t2 : L 2 = true := hL 2 rfl
    have t5 : L 5 = true := hL 5 rfl
    have t6 : L 6 = true := hL 6 rfl
    have t7 : L 7 = true := hL 7 rfl
    rw [t2, t5, t6] at H
    have F := Sx.Fr.add F (p2 t2)
    have F := Sx.Fr.add F (p5 t5)
    have F := Sx.Fr.add F (p6 t6)
    have F := Sx.Fr.add F (p7 t7)
    have F := Sx.Fr.to F (kv' := [(2, v3)]) ⟨rfl, trivial⟩
    refine hK2 _ _ ?_
    refine wp_ret ?_
    try dsimp only [Exit.then, Exit.inBlock, Exit.jump]
    refine Sx.ret1 F Try.results61 (Sx.res_tmp (v := v3) F rfl) ?_
    exact ⟨_, rfl, by have h := H.row 2 _ rfl rfl; exact Sx.rowEq h rfl rfl rfl rfl (Bi.list x), H.below⟩
end Go.Proofs.Ytpbdffmgendboab
