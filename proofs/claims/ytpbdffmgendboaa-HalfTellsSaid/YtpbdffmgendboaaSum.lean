/- The reference's Sum walked. -/
import Derived.Test.YtpbdffmgendboaaSl6
import Derived.Test.YtpbdffmgendboaaWo
namespace Go.Proofs.Ytpbdffmgendboaa
open Go Go.RowKit
set_option maxRecDepth 100000 in
theorem rsum_s (f g : Nat → Bool) (m : Nat) (hm : m ≤ 1000) (ada adb : Option Addr) (capa capb : Nat) (w0 : World) (hca : ∀ k, k < m → ∃ b o, ada = some ⟨b, o, none⟩ ∧ w0.cell? ⟨b, o + k, none⟩ = some (.int .i64 ((f k).toNat : Nat))) (hcb : ∀ k, k < m → ∃ b o, adb = some ⟨b, o, none⟩ ∧ w0.cell? ⟨b, o + k, none⟩ = some (.int .i64 ((g k).toNat : Nat))) : Calls Try.prog 74 #[.slice ada m capa, .slice adb m capb] w0 fun e w' => ∃ v, e = .returned v ∧ w'.ownsRow w0.heap.size 3 1 v (m + 1) (Bi.bis (Bi.sumb f g m) (m + 1)) ∧ Below w0.heap.size w0 w' := by
  refine Sx.enter (args := [.slice ada m capa, .slice adb m capb]) Try.func74 rfl Try.ntmps74 (Nat.le_of_ble_eq_true rfl) (fun A F => ?_)
  have H := Sx.Own.start w0
  refine Sx.seq (fun K1 hK1 => ?_)
  refine Sx.plain ?_
  refine Sx.sv F (Sx.d_move F (Or.inr rfl) rfl) (Sx.wanted_none rfl _) rfl (by decide) (fun A F => ?_)
  refine Sx.nil ?_
  refine hK1 _ _ ?_
  refine Sx.seq (fun K2 hK2 => ?_)
  refine Sx.plain ?_
  refine Sx.sr (mk := fun v => v) F (Sx.d_litR (qs := #[]) (cs := #[]) (E := 3) (z := 1) F H rfl rfl (fun _ => by kernel_rfl) rfl (by decide)) (Sx.wanted_none rfl _) rfl (by decide) (fun v1 A w F (H : Sx.Own w0 _ [] [⟨true, v1, 3, 1, 0, []⟩]) => ?_)
  refine Sx.sv F (Sx.d_move F (Or.inr rfl) rfl) (Sx.wanted_none rfl _) rfl (by decide) (fun A F => ?_)
  refine Sx.nil ?_
  refine hK2 _ _ ?_
  refine Sx.seq (fun K3 hK3 => ?_)
  refine Sx.plain ?_
  refine Sx.sv F (Sx.d_move F (Or.inr rfl) rfl) (Sx.wanted_none rfl _) rfl (by decide) (fun A F => ?_)
  refine Sx.nil ?_
  refine hK3 _ _ ?_
  refine Sx.seq (fun K4 hK4 => ?_)
  refine Sx.seq (fun K5 hK5 => ?_)
  refine Sx.plain ?_
  refine Sx.sv F (Sx.d_move F (Or.inr rfl) rfl) (Sx.wanted_none rfl _) rfl (by decide) (fun A F => ?_)
  refine Sx.nil ?_
  refine hK5 _ _ ?_
  refine wp_block ?_
  have F := Sx.Fr.to F (kv' := [(0, .slice ada m capa), (1, .slice adb m capb), (5, v1), (6, .int .i64 ((Bi.car f g 0).toNat : Nat)), (7, .int .i64 (0 : Nat))]) ⟨rfl, rfl, rfl, rfl, rfl, trivial⟩
  refine Sx.loop (fun q A w => ∃ (i : Nat) (v : Value), q = m - i ∧ i ≤ m ∧ Sx.Fr 38 A [(0, .slice ada m capa), (1, .slice adb m capb), (5, v), (6, .int .i64 ((Bi.car f g i).toNat)), (7, .int .i64 i)] ∧ Sx.Own w0 w [] [⟨true, v, 3, 1, i, (Bi.bis (Bi.sb f g) i)⟩]) m ⟨0, v1, rfl, Nat.zero_le _, F, H⟩ ?_
  rintro q A w ⟨i, v, rfl, hi, F, H⟩
  by_cases hlt : i < m
  · obtain ⟨ga, oa, hada, hcella⟩ := hca _ hlt
    obtain ⟨gb, ob, hadb, hcellb⟩ := hcb _ hlt
    have hs3 := Bi.s3_lt f g i
    refine Sx.seq (fun K6 hK6 => ?_)
    refine Sx.seq (fun K7 hK7 => ?_)
    refine Sx.plain ?_
    refine Sx.sv F (Sx.d_move F (Or.inl rfl) rfl) (Sx.wanted_none rfl _) rfl (by decide) (fun A F => ?_)
    refine Sx.sv F (Sx.d_move F (Or.inl rfl) rfl) (Sx.wanted_none rfl _) rfl (by decide) (fun A F => ?_)
    refine Sx.sv F (Sx.d_lenS el_110 F rfl rfl) (Sx.wanted_none rfl _) rfl (by decide) (fun A F => ?_)
    refine Sx.sv F (Sx.d_bin (v := .bool true) F rfl rfl rfl (Sx.i_lt (decide_eq_true (by omega)))) (Sx.wanted_none rfl _) rfl (by decide) (fun A F => ?_)
    refine Sx.nil ?_
    refine hK7 _ _ ?_
    refine Sx.condT F rfl ?_
    refine wp_skip ?_
    refine hK6 _ _ ?_
    refine Sx.seq (fun K8 hK8 => ?_)
    refine wp_block ?_
    refine Sx.seq (fun K9 hK9 => ?_)
    have F := Sx.Fr.to F (kv' := [(0, .slice ada m capa), (1, .slice adb m capb), (5, v), (6, .int .i64 ((Bi.car f g i).toNat)), (7, .int .i64 i), (10, .int .i64 i), (11, .slice ada m capa), (12, .int .i64 m), (13, .bool true)]) ⟨rfl, rfl, rfl, rfl, rfl, rfl, rfl, rfl, rfl, trivial⟩
    refine Sx.drawn F (by kernel_rfl) (by kernel_rfl) (by kernel_rfl) [some (.slice ada m capa), some (.int .i64 i), some (.pointer (some ⟨ga, oa + i, none⟩)), some (.int .i64 ((f i).toNat)), some (.slice adb m capb), some (.int .i64 i), some (.pointer (some ⟨gb, ob + i, none⟩)), some (.int .i64 ((g i).toNat)), some (.int .i64 (Bi.s2 f g i)), some (.int .i64 ((Bi.car f g i).toNat)), some (.int .i64 (Bi.s3 f g i)), some (.int .i64 (Bi.s3 f g i))] (fun L A w => Sx.Own w0 w [] [⟨true, v, 3, 1, i, (Bi.bis (Bi.sb f g) i)⟩]) H.drew ?_ ?_
    · refine ⟨?_, ?_, ?_, ?_, ?_, ?_, ?_, ?_, ?_, ?_, ?_, ?_, trivial⟩
      · show Sx.StepAt _ _ _ _ _ _ _ 0
        intro L A w up hun hd F H
        have F := Sx.Fr.to F (kv' := [(0, .slice ada m capa)]) ⟨rfl, trivial⟩
        refine Sx.step_on rfl (Sx.d_move F (Or.inl rfl) rfl) ?_
        rintro xv w' ⟨hx, rfl⟩
        exact ⟨(fun cv hc => hx.trans (Option.some.inj (Option.some.inj hc))), H⟩
      · show Sx.StepAt _ _ _ _ _ _ _ 1
        intro L A w up hun hd F H
        have F := Sx.Fr.to F (kv' := [(7, .int .i64 i)]) ⟨rfl, trivial⟩
        refine Sx.step_on rfl (Sx.d_move F (Or.inl rfl) rfl) ?_
        rintro xv w' ⟨hx, rfl⟩
        exact ⟨(fun cv hc => hx.trans (Option.some.inj (Option.some.inj hc))), H⟩
      · show Sx.StepAt _ _ _ _ _ _ _ 2
        intro L A w up hun hd F H
        have F := Sx.Fr.to F (kv' := [(16, .slice ada m capa), (17, .int .i64 i)]) ⟨rfl, rfl, trivial⟩
        refine Sx.step_on rfl (Sx.d_ix1 (k := i) (g := ga) (off := oa) el_110 F rfl rfl hada rfl (rfl) (by omega)) ?_
        rintro xv w' ⟨hx, rfl⟩
        exact ⟨(fun cv hc => hx.trans (Option.some.inj (Option.some.inj hc))), H⟩
      · show Sx.StepAt _ _ _ _ _ _ _ 3
        intro L A w up hun hd F H
        have F := Sx.Fr.to F (kv' := [(18, .pointer (some ⟨ga, oa + i, none⟩))]) ⟨rfl, trivial⟩
        refine Sx.step_on rfl (Sx.d_loadF one_3 F H rfl rfl hcella) ?_
        rintro xv w' ⟨hx, rfl⟩
        exact ⟨(fun cv hc => hx.trans (Option.some.inj (Option.some.inj hc))), H⟩
      · show Sx.StepAt _ _ _ _ _ _ _ 4
        intro L A w up hun hd F H
        have F := Sx.Fr.to F (kv' := [(1, .slice adb m capb)]) ⟨rfl, trivial⟩
        refine Sx.step_on rfl (Sx.d_move F (Or.inl rfl) rfl) ?_
        rintro xv w' ⟨hx, rfl⟩
        exact ⟨(fun cv hc => hx.trans (Option.some.inj (Option.some.inj hc))), H⟩
      · show Sx.StepAt _ _ _ _ _ _ _ 5
        intro L A w up hun hd F H
        have F := Sx.Fr.to F (kv' := [(7, .int .i64 i)]) ⟨rfl, trivial⟩
        refine Sx.step_on rfl (Sx.d_move F (Or.inl rfl) rfl) ?_
        rintro xv w' ⟨hx, rfl⟩
        exact ⟨(fun cv hc => hx.trans (Option.some.inj (Option.some.inj hc))), H⟩
      · show Sx.StepAt _ _ _ _ _ _ _ 6
        intro L A w up hun hd F H
        have F := Sx.Fr.to F (kv' := [(20, .slice adb m capb), (21, .int .i64 i)]) ⟨rfl, rfl, trivial⟩
        refine Sx.step_on rfl (Sx.d_ix1 (k := i) (g := gb) (off := ob) el_110 F rfl rfl hadb rfl (rfl) (by omega)) ?_
        rintro xv w' ⟨hx, rfl⟩
        exact ⟨(fun cv hc => hx.trans (Option.some.inj (Option.some.inj hc))), H⟩
      · show Sx.StepAt _ _ _ _ _ _ _ 7
        intro L A w up hun hd F H
        have F := Sx.Fr.to F (kv' := [(22, .pointer (some ⟨gb, ob + i, none⟩))]) ⟨rfl, trivial⟩
        refine Sx.step_on rfl (Sx.d_loadF one_3 F H rfl rfl hcellb) ?_
        rintro xv w' ⟨hx, rfl⟩
        exact ⟨(fun cv hc => hx.trans (Option.some.inj (Option.some.inj hc))), H⟩
      · show Sx.StepAt _ _ _ _ _ _ _ 8
        intro L A w up hun hd F H
        have F := Sx.Fr.to F (kv' := [(19, .int .i64 ((f i).toNat)), (23, .int .i64 ((g i).toNat))]) ⟨rfl, rfl, trivial⟩
        refine Sx.step_on rfl (Sx.d_bin (v := .int .i64 (Bi.s2 f g i)) F rfl rfl rfl (Sx.i_addN rfl (Sx.in_i64 _ (by have := Bi.s2_lt f g i; omega)))) ?_
        rintro xv w' ⟨hx, rfl⟩
        exact ⟨(fun cv hc => hx.trans (Option.some.inj (Option.some.inj hc))), H⟩
      · show Sx.StepAt _ _ _ _ _ _ _ 9
        intro L A w up hun hd F H
        have F := Sx.Fr.to F (kv' := [(6, .int .i64 ((Bi.car f g i).toNat))]) ⟨rfl, trivial⟩
        refine Sx.step_on rfl (Sx.d_move F (Or.inl rfl) rfl) ?_
        rintro xv w' ⟨hx, rfl⟩
        exact ⟨(fun cv hc => hx.trans (Option.some.inj (Option.some.inj hc))), H⟩
      · show Sx.StepAt _ _ _ _ _ _ _ 10
        intro L A w up hun hd F H
        have F := Sx.Fr.to F (kv' := [(24, .int .i64 (Bi.s2 f g i)), (25, .int .i64 ((Bi.car f g i).toNat))]) ⟨rfl, rfl, trivial⟩
        refine Sx.step_on rfl (Sx.d_bin (v := .int .i64 (Bi.s3 f g i)) F rfl rfl rfl (Sx.i_addN rfl (Sx.in_i64 _ (by omega)))) ?_
        rintro xv w' ⟨hx, rfl⟩
        exact ⟨(fun cv hc => hx.trans (Option.some.inj (Option.some.inj hc))), H⟩
      · show Sx.StepAt _ _ _ _ _ _ _ 11
        intro L A w up hun hd F H
        have F := Sx.Fr.to F (kv' := [(26, .int .i64 (Bi.s3 f g i))]) ⟨rfl, trivial⟩
        refine Sx.step_on rfl (Sx.d_move F (Or.inr rfl) rfl) ?_
        rintro xv w' ⟨hx, rfl⟩
        exact ⟨(fun cv hc => hx.trans (Option.some.inj (Option.some.inj hc))), H⟩
    · intro L A w hL F H
      have F := Sx.Fr.to F (kv' := [(0, .slice ada m capa), (1, .slice adb m capb), (5, v), (6, .int .i64 ((Bi.car f g i).toNat)), (7, .int .i64 i), (10, .int .i64 i), (11, .slice ada m capa), (12, .int .i64 m), (13, .bool true), (8, .int .i64 (Bi.s3 f g i))]) ⟨rfl, rfl, rfl, rfl, rfl, rfl, rfl, rfl, rfl, rfl, trivial⟩
      refine hK9 _ _ ?_
      refine Sx.seq (fun K10 hK10 => ?_)
      refine Sx.plain ?_
      refine Sx.sv F (Sx.d_move F (Or.inl rfl) rfl) (Sx.wanted_none rfl _) rfl (by decide) (fun A F => ?_)
      refine Sx.sv F (Sx.d_move F (Or.inl rfl) rfl) (Sx.wanted_none rfl _) rfl (by decide) (fun A F => ?_)
      refine Sx.sv F (Sx.d_bin (v := .int .i64 ((Bi.sb f g i).toNat)) F rfl rfl rfl (Sx.i_rem (Bi.s3_rem f g i) (by decide))) (Sx.wanted_none rfl _) rfl (by decide) (fun A F => ?_)
      refine Sx.sg (mk := fun g => .slice (some ⟨g, 0, none⟩) 1 1) F (Sx.d_lit (qs := #[(0, .int .i64 ((Bi.sb f g i).toNat))]) (cs := #[.int .i64 ((Bi.sb f g i).toNat)]) (E := 3) F H rfl rfl (fun _ => by kernel_rfl)) (Sx.wanted_none rfl _) rfl (by decide) (fun g1 A w F (H : Sx.Own w0 _ [(true, g1, [.int .i64 ((Bi.sb f g i).toNat)])] [⟨true, v, 3, 1, i, (Bi.bis (Bi.sb f g) i)⟩]) => ?_)
      refine Sx.sr (mk := fun v => v) F (Sx.d_append (i := 0) (j := 0) el_110 F H rfl rfl rfl rfl rfl rfl rfl rfl (by omega) (by decide)) (Sx.wanted_none rfl _) rfl (by decide) (fun v2 A w F (H : Sx.Own w0 _ [(true, g1, [.int .i64 ((Bi.sb f g i).toNat)])] [⟨true, v2, 3, 1, (i + 1), (Bi.bis (Bi.sb f g) i) ++ [.int .i64 ((Bi.sb f g i).toNat)]⟩]) => ?_)
      refine Sx.sv F (Sx.d_move F (Or.inr rfl) rfl) (Sx.wanted_none rfl _) rfl (by decide) (fun A F => ?_)
      refine Sx.nil ?_
      refine hK10 _ _ ?_
      refine Sx.plain ?_
      refine Sx.sv F (Sx.d_move F (Or.inl rfl) rfl) (Sx.wanted_none rfl _) rfl (by decide) (fun A F => ?_)
      refine Sx.sv F (Sx.d_bin (v := .int .i64 ((Bi.car f g (i + 1)).toNat)) F rfl rfl rfl (Sx.i_quoN (Bi.s3_quo f g i) (by decide) (Sx.in_i64 _ (by have := Bi.bl (Bi.car f g (i + 1)); omega)))) (Sx.wanted_none rfl _) rfl (by decide) (fun A F => ?_)
      refine Sx.sv F (Sx.d_move F (Or.inr rfl) rfl) (Sx.wanted_none rfl _) rfl (by decide) (fun A F => ?_)
      refine Sx.nil ?_
      refine hK8 _ _ ?_
      refine Sx.plain ?_
      refine Sx.sv F (Sx.d_move F (Or.inl rfl) rfl) (Sx.wanted_none rfl _) rfl (by decide) (fun A F => ?_)
      refine Sx.sv F (Sx.d_bin (v := .int .i64 (i + 1 : Nat)) F rfl rfl rfl (Sx.i_addN rfl (Sx.in_i64 _ (by omega)))) (Sx.wanted_none rfl _) rfl (by decide) (fun A F => ?_)
      refine Sx.sv F (Sx.d_move F (Or.inr rfl) rfl) (Sx.wanted_none rfl _) rfl (by decide) (fun A F => ?_)
      refine Sx.nil ?_
      try dsimp only [Exit.then]
      exact ⟨m - (i + 1), by omega, i + 1, v2, rfl, by omega, F.to ⟨rfl, rfl, rfl, rfl, rfl, trivial⟩, by rw [Bi.snoc]; exact H.to' [] [0] (by decide) (by decide) rfl rfl⟩
  · obtain rfl : i = m := by omega
    refine Sx.seq (fun K11 hK11 => ?_)
    refine Sx.seq (fun K12 hK12 => ?_)
    refine Sx.plain ?_
    refine Sx.sv F (Sx.d_move F (Or.inl rfl) rfl) (Sx.wanted_none rfl _) rfl (by decide) (fun A F => ?_)
    refine Sx.sv F (Sx.d_move F (Or.inl rfl) rfl) (Sx.wanted_none rfl _) rfl (by decide) (fun A F => ?_)
    refine Sx.sv F (Sx.d_lenS el_110 F rfl rfl) (Sx.wanted_none rfl _) rfl (by decide) (fun A F => ?_)
    refine Sx.sv F (Sx.d_bin (v := .bool false) F rfl rfl rfl (Sx.i_lt (by simp))) (Sx.wanted_none rfl _) rfl (by decide) (fun A F => ?_)
    refine Sx.nil ?_
    refine hK12 _ _ ?_
    refine Sx.condF F rfl ?_
    refine wp_exit ?_
    try dsimp only [Exit.then, Exit.jump]
    refine Sx.exit_here ?_
    refine hK4 _ _ ?_
    refine Sx.seq (fun K13 hK13 => ?_)
    refine Sx.plain ?_
    refine Sx.sv F (Sx.d_move F (Or.inl rfl) rfl) (Sx.wanted_none rfl _) rfl (by decide) (fun A F => ?_)
    refine Sx.sv F (Sx.d_move F (Or.inl rfl) rfl) (Sx.wanted_none rfl _) rfl (by decide) (fun A F => ?_)
    refine Sx.sg (mk := fun g => .slice (some ⟨g, 0, none⟩) 1 1) F (Sx.d_lit (qs := #[(0, .int .i64 ((Bi.car f g i).toNat))]) (cs := #[.int .i64 ((Bi.car f g i).toNat)]) (E := 3) F H rfl rfl (fun _ => by kernel_rfl)) (Sx.wanted_none rfl _) rfl (by decide) (fun g2 A w F (H : Sx.Own w0 _ [(true, g2, [.int .i64 ((Bi.car f g i).toNat)])] [⟨true, v, 3, 1, i, (Bi.bis (Bi.sb f g) i)⟩]) => ?_)
    refine Sx.sr (mk := fun v => v) F (Sx.d_append (i := 0) (j := 0) el_110 F H rfl rfl rfl rfl rfl rfl rfl rfl (by omega) (by decide)) (Sx.wanted_none rfl _) rfl (by decide) (fun v3 A w F (H : Sx.Own w0 _ [(true, g2, [.int .i64 ((Bi.car f g i).toNat)])] [⟨true, v3, 3, 1, (i + 1), (Bi.bis (Bi.sb f g) i) ++ [.int .i64 ((Bi.car f g i).toNat)]⟩]) => ?_)
    refine Sx.sv F (Sx.d_move F (Or.inr rfl) rfl) (Sx.wanted_none rfl _) rfl (by decide) (fun A F => ?_)
    refine Sx.nil ?_
    refine hK13 _ _ ?_
    refine wp_ret ?_
    try dsimp only [Exit.then, Exit.inBlock, Exit.jump]
    refine Sx.ret1 F Try.results74 (Sx.res_tmp (v := v3) F rfl) ?_
    exact ⟨_, rfl, Sx.rowEq (H.row 0 _ rfl rfl) rfl rfl rfl rfl (Bi.sum_row f g _), H.below⟩
theorem rsum_c (f g : Nat → Bool) (va vb : Value) {m : Nat} (hm : m ≤ 1000) (w : World) (ha : Bi.Rd w va f m) (hb : Bi.Rd w vb g m) : Calls Try.prog 74 #[va, vb] w fun e w' => ∃ v, e = .returned v ∧ w'.ownsRow w.heap.size 3 1 v (m + 1) (Bi.bis (Bi.sumb f g m) (m + 1)) ∧ Below w.heap.size w w' := by
  obtain ⟨hl, ada, capa, rfl, hca⟩ := ha
  obtain ⟨_, adb, capb, rfl, hcb⟩ := hb
  exact rsum_s f g m hm ada adb capa capb w hca hcb
end Go.Proofs.Ytpbdffmgendboaa
