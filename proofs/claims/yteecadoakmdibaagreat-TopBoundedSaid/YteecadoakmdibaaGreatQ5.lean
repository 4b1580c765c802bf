/- What the proof of TopBounded leans on: part 5. -/
import Derived.Test.YteecadoakmdibaaGreatQ1
import Derived.Test.YteecadoakmdibaaGreatQ2
import Derived.Test.YteecadoakmdibaaGreatQ3
import Derived.Test.YteecadoakmdibaaGreatQ4
import Derived.WalkMore
import Derived.Deep.RegionHeld3
set_option maxRecDepth 100000
set_option maxHeartbeats 4000000
namespace Go.Proofs.YteecadoakmdibaaGreat
open Go Go.RowKit
open Sx in
theorem mswrong_1 (f : Nat → Bool) (m : Nat) (st : Ms.S) (i : Nat) (gs gl : Nat) (cv : Value) (ada : Option Addr) (capa : Nat) (hi : i < m) (hn : st.n ≤ i) (hm : m ≤ 2000) (w0 : World) (hc0 : w0.cell? ⟨gs, 0, none⟩ = some cv) (hc2 : w0.cell? ⟨gs, 0 + 2, none⟩ = some (iI (st.n : Nat))) (hl0 : w0.cell? ⟨gl, 0, none⟩ = some (.slice ada m capa)) (hrc : Gf.Rd w0 cv (Gf.ws st.c)) (hrl : ∀ k, k < m → ∃ g o, ada = some ⟨g, o, none⟩ ∧ w0.cell? ⟨g, o + k, none⟩ = some (.bool (f k))) : Calls Tryz.prog 236 #[iI i, pT gs 0, pT gl 0] w0 fun e w' => e = .returned (.bool (Ms.wrong f st.c i (st.n + 1))) ∧ Below w0.heap.size w0 w' := by
 refine En Tryz.func236 Tryz.ntmps236 fun A F => ?_
 have H := Sx.Own.start w0
 refine Sp fun _ kk => Av F fun A F => ?_
 refine Nl kk (Sp fun _ kk => Av F fun A F => ?_)
 refine Nl kk (Sx.seq fun K3 hK3 => Sp fun _ kk => Zv F (d_faddr (v := pT gs 2) F rfl rfl (fa_301_2.default.h _ (0) _)) fun A F => ?_)
 refine Zv F (d_loadF one_3 F H rfl rfl hc2) fun A F => ?_
 refine Zv F (Bn (iI (st.n + 1 : Nat)) F rfl rfl rfl (i_addN rfl (in_i64 _ (by omega)))) fun A F => ?_
 refine Av F fun A F => ?_
 refine Nl kk (wp_block (loop (fun q A w => ∃ (k : Nat), q = (st.n + 1) - k ∧ k ≤ (st.n + 1) ∧ Fr 30 A [(0, iI i), (1, pT gs 0), (2, pT gl 0), (9, iI (st.n + 1 : Nat)), (5, .bool (Ms.wrong f st.c i k)), (10, iI k)] ∧ Sx.Own w0 w [] []) ((st.n + 1) - 0) ⟨0, rfl, Nat.zero_le _, F.to ⟨rfl, rfl, rfl, rfl, rfl, rfl, trivial⟩, H⟩ ?_))
 rintro q A w ⟨k, rfl, hi_k, F, H⟩
 by_cases hlt_k : k < (st.n + 1)
 ·skip
  refine Sp fun _ kk => Zv F (Bn bT F rfl rfl rfl (i_lt (decide_eq_true (by omega)))) fun A F => ?_
  refine Nl kk (Sx.seq fun K6 hK6 => condT F rfl (wp_skip (hK6 _ _ (Sx.seq fun K7 hK7 => wp_block (Sp fun _ kk => ?_)))))
  iterate 2 (refine Av F ?_; intro A F)
  refine Nl kk ?_
  cases hb : Nat.testBit st.c k
  ·have hw : Ms.wrong f st.c i (k + 1) = Ms.wrong f st.c i k := if_neg (by rw [hb, Bool.false_and]; decide)
   refine Sp fun _ kk => Zv F (d_faddr (v := pT gs 0) F rfl rfl (fa_301_0.default.h _ (0) _)) fun A F => ?_
   refine Zv F (d_loadF one_274 F H rfl rfl hc0) fun A F => ?_
   refine Av F fun A F => ?_
   refine Zw F (Dc if_210 F H (gbit_c k _ (Gf.ws st.c) st.c (Gf.val_ws _) _ (by omega) ((hrc).below H.below))) fun A w F H => ?_
   refine Zv F (Bn bF F rfl rfl rfl (i_eq (by rw [hb]; rfl))) fun A F => ?_
   refine Av F fun A F => ?_
   refine su F (wanted_off rfl (guard_known (d := 18) (b := false) F rfl rfl) rfl) rfl (by decide) (fun A F => ?_)
   refine su F (wanted_off rfl (guard_known (d := 18) (b := false) F rfl rfl) rfl) rfl (by decide) (fun A F => ?_)
   refine su F (wanted_off rfl (guard_known (d := 18) (b := false) F rfl rfl) rfl) rfl (by decide) (fun A F => ?_)
   refine su F (wanted_off rfl (guard_known (d := 18) (b := false) F rfl rfl) rfl) rfl (by decide) (fun A F => ?_)
   refine su F (wanted_off rfl (guard_known (d := 18) (b := false) F rfl rfl) rfl) rfl (by decide) (fun A F => ?_)
   refine su F (wanted_off rfl (guard_known (d := 18) (b := false) F rfl rfl) rfl) rfl (by decide) (fun A F => ?_)
   refine Av F fun A F => ?_
   refine Nl kk (condF F rfl (wp_skip (hK7 _ _ (Sx.plain ?_))))
   refine Zv F (Bn (iI (k + 1 : Nat)) F rfl rfl rfl (i_addN rfl (in_i64 _ (by omega)))) fun A F => ?_
   refine Av F fun A F => ?_
   refine Sx.nil ?_
   try dsimp only [Exit.then, Exit.noGoto]
   rw [← hw] at F
   exact ⟨(st.n + 1) - (k + 1), by omega, k + 1, rfl, by omega, F.to ⟨rfl, rfl, rfl, rfl, rfl, rfl, trivial⟩, H⟩
  ·obtain ⟨ga, oa, hada, hcell⟩ := hrl (i - k) (by omega)
   cases hf : f (i - k)
   ·have hw : Ms.wrong f st.c i (k + 1) = Ms.wrong f st.c i k := if_neg (by rw [hb, hf]; decide)
    rw [hf] at hcell
    refine Sp fun _ kk => Zv F (d_faddr (v := pT gs 0) F rfl rfl (fa_301_0.default.h _ (0) _)) fun A F => ?_
    refine Zv F (d_loadF one_274 F H rfl rfl hc0) fun A F => ?_
    refine Av F fun A F => ?_
    refine Zw F (Dc if_210 F H (gbit_c k _ (Gf.ws st.c) st.c (Gf.val_ws _) _ (by omega) ((hrc).below H.below))) fun A w F H => ?_
    refine Zv F (Bn bT F rfl rfl rfl (i_eq (by rw [hb]; rfl))) fun A F => ?_
    refine Av F fun A F => ?_
    refine Zv F (d_loadF one_285 F H rfl rfl hl0) fun A F => ?_
    iterate 2 (refine Av F ?_; intro A F)
    refine Zv F (Bn (iI (i - k : Nat)) F rfl rfl rfl (i_subS (by rw [in64 _ (by omega)]; omega))) fun A F => ?_
    refine Zv F (d_ix1 (k := (i - k)) (g := ga) (off := oa) el_285 F rfl rfl hada rfl (rfl) (by omega)) fun A F => ?_
    refine Zv F (d_loadF one_4 F H rfl rfl hcell) fun A F => ?_
    refine Av F fun A F => ?_
    refine Nl kk (condF F rfl (wp_skip (hK7 _ _ (Sx.plain ?_))))
    refine Zv F (Bn (iI (k + 1 : Nat)) F rfl rfl rfl (i_addN rfl (in_i64 _ (by omega)))) fun A F => ?_
    refine Av F fun A F => ?_
    refine Sx.nil ?_
    try dsimp only [Exit.then, Exit.noGoto]
    rw [← hw] at F
    exact ⟨(st.n + 1) - (k + 1), by omega, k + 1, rfl, by omega, F.to ⟨rfl, rfl, rfl, rfl, rfl, rfl, trivial⟩, H⟩
   ·have hw : Ms.wrong f st.c i (k + 1) = !Ms.wrong f st.c i k := if_pos (by rw [hb, hf]; rfl)
    rw [hf] at hcell
    refine Sp fun _ kk => Zv F (d_faddr (v := pT gs 0) F rfl rfl (fa_301_0.default.h _ (0) _)) fun A F => ?_
    refine Zv F (d_loadF one_274 F H rfl rfl hc0) fun A F => ?_
    refine Av F fun A F => ?_
    refine Zw F (Dc if_210 F H (gbit_c k _ (Gf.ws st.c) st.c (Gf.val_ws _) _ (by omega) ((hrc).below H.below))) fun A w F H => ?_
    refine Zv F (Bn bT F rfl rfl rfl (i_eq (by rw [hb]; rfl))) fun A F => ?_
    refine Av F fun A F => ?_
    refine Zv F (d_loadF one_285 F H rfl rfl hl0) fun A F => ?_
    iterate 2 (refine Av F ?_; intro A F)
    refine Zv F (Bn (iI (i - k : Nat)) F rfl rfl rfl (i_subS (by rw [in64 _ (by omega)]; omega))) fun A F => ?_
    refine Zv F (d_ix1 (k := (i - k)) (g := ga) (off := oa) el_285 F rfl rfl hada rfl (rfl) (by omega)) fun A F => ?_
    refine Zv F (d_loadF one_4 F H rfl rfl hcell) fun A F => ?_
    refine Av F fun A F => ?_
    refine Nl kk (condT F rfl (Sx.plain ?_))
    refine Av F fun A F => ?_
    refine Zv F (d_un (v := .bool (!(Ms.wrong f st.c i k))) F rfl rfl rfl) fun A F => ?_
    refine Av F fun A F => ?_
    refine Sx.nil (hK7 _ _ (Sx.plain ?_))
    refine Zv F (Bn (iI (k + 1 : Nat)) F rfl rfl rfl (i_addN rfl (in_i64 _ (by omega)))) fun A F => ?_
    refine Av F fun A F => ?_
    refine Sx.nil ?_
    try dsimp only [Exit.then, Exit.noGoto]
    rw [← hw] at F
    exact ⟨(st.n + 1) - (k + 1), by omega, k + 1, rfl, by omega, F.to ⟨rfl, rfl, rfl, rfl, rfl, rfl, trivial⟩, H⟩
 ·have hie_k : k = (st.n + 1) := by omega
  rw [hie_k] at F
  try rw [hie_k] at H
  refine Sp fun _ kk => Zv F (Bn bF F rfl rfl rfl (i_lt (decide_eq_false (by omega)))) fun A F => ?_
  refine Nl kk (Sx.seq fun K13 hK13 => condF F rfl (wp_exit ?_))
  try dsimp only [Exit.then, Exit.jump, Exit.noGoto]
  refine exit_here (hK3 _ _ (Sp fun _ kk => ?_))
  iterate 2 (refine Av F ?_; intro A F)
  refine Nl kk ?_
  refine Wr (ret1 F Tryz.results236 (res_tmp F rfl) (An ?_ H.below))
  rfl
theorem mswrong_c (f : Nat → Bool) (m : Nat) (st : Ms.S) (i : Nat) (gs gl : Nat) (cv lv : Value) (hi : i < m) (hn : st.n ≤ i) (hm : m ≤ 2000) (w : World) (hc0 : w.cell? ⟨gs, 0, none⟩ = some cv) (hc2 : w.cell? ⟨gs, 2, none⟩ = some (.int .i64 (st.n : Nat))) (hl0 : w.cell? ⟨gl, 0, none⟩ = some lv) (hrc : Gf.Rd w cv (Gf.ws st.c)) (hrl : Ms.Rd w lv f m) :
    Calls Tryz.prog 236 #[.int .i64 i, .pointer (some ⟨gs, 0, none⟩), .pointer (some ⟨gl, 0, none⟩)] w fun e w' => e = .returned (.bool (Ms.wrong f st.c i (st.n + 1))) ∧ Below w.heap.size w w' := by
  obtain ⟨_, ada, capa, rfl, hr⟩ := hrl
  exact mswrong_1 f m st i gs gl cv ada capa hi hn hm w hc0 hc2 hl0 hrc hr
open Sx in
theorem mssearch_1 (f : Nat → Bool) (m : Nat) (ada : Option Addr) (capa : Nat) (hm : m ≤ 2000) (w0 : World) (hrl : Ms.Rd w0 (.slice ada m capa) f m) : Calls Tryz.prog 227 #[.slice ada m capa] w0 fun e w' => ∃ c b : Value, e = .returned (.agg #[c, b, iI ((Ms.run f m).n : Nat), iI ((Ms.run f m).ago : Nat)]) ∧ Sx.Own w0 w' [] [⟨true, c, 22, 1, (Gf.ws (Ms.run f m).c).length, (Gf.cells (Gf.ws (Ms.run f m).c))⟩, ⟨true, b, 22, 1, (Gf.ws (Ms.run f m).b).length, (Gf.cells (Gf.ws (Ms.run f m).b))⟩] := by
 refine En Tryz.func227 Tryz.ntmps227 fun A F => ?_
 have H := Sx.Own.start w0
 refine Sp fun _ kk => Zb F (d_box F H rfl rfl [.slice ada m capa] rfl) fun g1 A w F H => ?_
 refine Zb F (d_alloc H rfl [nS, nS, iI 0, iI 0] zero_301) fun g2 A w F H => ?_
 refine Nl kk (Sp fun _ kk => Zr (mk := fun v => v) F (d_litR (qs := #[(0, iU 1)]) (cs := #[iU 1]) (E := 22) (z := 1) F H rfl rfl (fun _ => by kernel_rfl) rfl (by decide)) fun v1 A w F (H : Sx.Own w0 _ [(true, g2, [nS, nS, iI 0, iI 0]), (true, g1, [.slice ada m capa])] [⟨true, v1, 22, 1, 1, [iU 1]⟩]) => ?_)
 refine Zr (mk := fun v => v) F (d_litR (qs := #[(0, iU 1)]) (cs := #[iU 1]) (E := 22) (z := 1) F H rfl rfl (fun _ => by kernel_rfl) rfl (by decide)) fun v2 A w F (H : Sx.Own w0 _ [(true, g2, [nS, nS, iI 0, iI 0]), (true, g1, [.slice ada m capa])] [⟨true, v2, 22, 1, 1, [iU 1]⟩, ⟨true, v1, 22, 1, 1, [iU 1]⟩]) => ?_
 refine Zv F (d_build (qs := #[(0, v1), (1, v2), (2, iI 0), (3, iI 1)]) (v := .agg #[v1, v2, iI 0, iI 1]) F rfl rfl (by obtain ⟨_, _, hv0⟩ := Sx.len_of (k := 1) (v := v1) (rowEq (H.row 1 _ rfl rfl) rfl rfl rfl rfl rfl); obtain ⟨_, _, hv1⟩ := Sx.len_of (k := 1) (v := v2) (rowEq (H.row 0 _ rfl rfl) rfl rfl rfl rfl rfl); rw [hv0, hv1]; kernel_rfl)) fun A F => ?_
 refine Zb F (d_alloc H rfl [nS, nS, iI 0, iI 0] zero_301) fun g3 A w F H => ?_
 refine Zt F (d_store (i := 0) (xs := [v1, v2, iI 0, iI 1]) (us := [v1, v2, iI 0, iI 1]) sz_301 F H rfl rfl rfl (rfl) rfl (by obtain ⟨_, _, hv0⟩ := Sx.len_of (k := 1) (v := v1) (rowEq (H.row 1 _ rfl rfl) rfl rfl rfl rfl rfl); obtain ⟨_, _, hv1⟩ := Sx.len_of (k := 1) (v := v2) (rowEq (H.row 0 _ rfl rfl) rfl rfl rfl rfl rfl); rw [hv0, hv1]; rfl) rfl (Nat.le_of_ble_eq_true rfl) rfl) fun A w F (H : Sx.Own w0 _ [(true, g3, [v1, v2, iI 0, iI 1]), (true, g2, [nS, nS, iI 0, iI 0]), (true, g1, [.slice ada m capa])] [⟨true, v2, 22, 1, 1, [iU 1]⟩, ⟨true, v1, 22, 1, 1, [iU 1]⟩]) => ?_
 refine Nl kk (Sp fun _ kk => Zv F (d_mkFunc (fv := []) (cv := [pT g3 0, pT g1 0]) F rfl rfl rfl) fun A F => ?_)
 refine Av F fun A F => ?_
 refine Nl kk (Sx.seq fun K4 hK4 => Sp fun _ kk => Av F fun A F => ?_)
 refine Zv F (d_lenS el_285 F rfl rfl) fun A F => ?_
 refine Av F fun A F => ?_
 refine Nl kk (wp_block ?_)
 have hw1 : Gf.ws 1 = [1#64] := Gf.ws_small (by decide) (by decide)
 have H : Sx.Own w0 w [(true, g3, [v1, v2, iI ((Ms.run f 0).n), iI ((Ms.run f 0).ago)]), (true, g1, [.slice ada m capa]), (true, g2, [nS, nS, iI 0, iI 0])] [⟨true, v1, 22, 1, (Gf.ws ((Ms.run f 0).c)).length, (Gf.cells (Gf.ws ((Ms.run f 0).c)))⟩, ⟨true, v2, 22, 1, (Gf.ws ((Ms.run f 0).b)).length, (Gf.cells (Gf.ws ((Ms.run f 0).b)))⟩] := by rw [show (Ms.run f 0).c = 1 from rfl, show (Ms.run f 0).b = 1 from rfl, hw1]; exact H.to' [0, 2, 1] [1, 0] (by decide) (by decide) rfl rfl
 refine loop (fun q A w => ∃ (i : Nat) (cv : Value) (bv : Value), q = m - i ∧ i ≤ m ∧ Fr 54 A [(1, pT g1 0), (2, pT g2 0), (3, pT g3 0), (4, .func (.func 236) #[] #[pT g3 0, pT g1 0]), (12, iI m), (13, iI i)] ∧ Sx.Own w0 w [(true, g3, [cv, bv, iI ((Ms.run f i).n), iI ((Ms.run f i).ago)]), (true, g1, [.slice ada m capa]), (true, g2, [nS, nS, iI 0, iI 0])] [⟨true, cv, 22, 1, (Gf.ws ((Ms.run f i).c)).length, (Gf.cells (Gf.ws ((Ms.run f i).c)))⟩, ⟨true, bv, 22, 1, (Gf.ws ((Ms.run f i).b)).length, (Gf.cells (Gf.ws ((Ms.run f i).b)))⟩]) (m - 0) ⟨0, v1, v2, rfl, Nat.zero_le _, F.to ⟨rfl, rfl, rfl, rfl, rfl, rfl, trivial⟩, H⟩ ?_
 rintro q A w ⟨i, cv, bv, rfl, hi_i, F, H⟩
 by_cases hlt_i : i < m
 ·skip
  have hok := Ms.run_ok f i
  obtain ⟨st, hst⟩ : ∃ q, Ms.run f i = q := ⟨_, rfl⟩
  rw [hst] at H hok
  obtain ⟨hl1, hl2, hl3, hl4⟩ := hok.lens (by omega)
  have hn := hok.n
  have hago := hok.ago
  have hrun : Ms.run f (i + 1) = Ms.one f i st := by show Ms.one f i (Ms.run f i) = _; rw [hst]
  unfold Ms.one at hrun
  refine Sp fun _ kk => Zv F (Bn bT F rfl rfl rfl (i_lt (decide_eq_true (by omega)))) fun A F => ?_
  refine Nl kk (Sx.seq fun K7 hK7 => condT F rfl (wp_skip (hK7 _ _ (Sx.seq fun K8 hK8 => wp_block (Sp fun _ kk => ?_)))))
  iterate 2 (refine Av F ?_; intro A F)
  refine Nl kk ?_
  cases hw : Ms.wrong f st.c i (st.n + 1)
  ·rw [hw, if_neg (by decide)] at hrun
   refine Sx.seq fun K10 hK10 => Sp fun _ kk => ?_
   iterate 2 (refine Av F ?_; intro A F)
   refine Zw F (d_callC (fv := []) (vs := [iI i]) (cv := [pT g3 0, pT g1 0]) (v := bF) if_236 F H rfl rfl rfl (Calls.val (mswrong_c f m st i g3 g1 _ _ (by omega) (by omega) (by omega) _ ((H.box 0 g3 _ rfl).1 0 _ rfl).1 ((H.box 0 g3 _ rfl).1 2 _ rfl).1 ((H.box 1 g1 _ rfl).1 0 _ rfl).1 (Gf.Rd.row (H.row 0 _ rfl rfl) rfl rfl (by omega)) ((hrl).below H.below)) rfl (by rw [hw]))) fun A w F H => ?_
   refine Zv F (d_un (v := bT) F rfl rfl rfl) fun A F => ?_
   refine Nl kk (condT F rfl (Sp fun _ kk => ?_))
   iterate 2 (refine Av F ?_; intro A F)
   refine Zv F (Bn (iI (st.ago + 1 : Nat)) F rfl rfl rfl (i_addN rfl (in_i64 _ (by omega)))) fun A F => ?_
   refine Av F fun A F => ?_
   refine Zt F (d_store (i := 0) (xs := [iI (st.ago + 1 : Nat)]) (us := [cv, bv, iI st.n, iI (st.ago + 1 : Nat)]) sz_3 F H rfl rfl rfl rfl rfl rfl rfl (Nat.le_of_ble_eq_true rfl) rfl) fun A w F (H : Sx.Own w0 _ [(true, g3, [cv, bv, iI st.n, iI (st.ago + 1 : Nat)]), (true, g1, [.slice ada m capa]), (true, g2, [nS, nS, iI 0, iI 0])] [⟨true, cv, 22, 1, (Gf.ws (st.c)).length, (Gf.cells (Gf.ws (st.c)))⟩, ⟨true, bv, 22, 1, (Gf.ws (st.b)).length, (Gf.cells (Gf.ws (st.b)))⟩]) => ?_
   refine Nl kk (wp_exit ?_)
   try dsimp only [Exit.then, Exit.jump, Exit.noGoto]
   refine exit_here (hK8 _ _ (Sx.plain ?_))
   refine Zv F (Bn (iI (i + 1 : Nat)) F rfl rfl rfl (i_addN rfl (in_i64 _ (by omega)))) fun A F => ?_
   refine Av F fun A F => ?_
   refine Sx.nil ?_
   try dsimp only [Exit.then, Exit.noGoto]
   exact ⟨m - (i + 1), by omega, i + 1, cv, bv, rfl, by omega, F.to ⟨rfl, rfl, rfl, rfl, rfl, rfl, trivial⟩, by rw [hrun]; exact H⟩
  ·rw [hw, if_pos rfl] at hrun
   refine Sx.seq fun K13 hK13 => Sp fun _ kk => ?_
   iterate 2 (refine Av F ?_; intro A F)
   refine Zw F (d_callC (fv := []) (vs := [iI i]) (cv := [pT g3 0, pT g1 0]) (v := bT) if_236 F H rfl rfl rfl (Calls.val (mswrong_c f m st i g3 g1 _ _ (by omega) (by omega) (by omega) _ ((H.box 0 g3 _ rfl).1 0 _ rfl).1 ((H.box 0 g3 _ rfl).1 2 _ rfl).1 ((H.box 1 g1 _ rfl).1 0 _ rfl).1 (Gf.Rd.row (H.row 0 _ rfl rfl) rfl rfl (by omega)) ((hrl).below H.below)) rfl (by rw [hw]))) fun A w F H => ?_
   refine Zv F (d_un (v := bF) F rfl rfl rfl) fun A F => ?_
   refine Nl kk (condF F rfl (wp_skip (hK13 _ _ (Sx.seq fun K15 hK15 => ?_))))
   have F := F.tq [(1, pT g1 0), (2, pT g2 0), (3, pT g3 0), (4, .func (.func 236) #[] #[pT g3 0, pT g1 0]), (12, iI m), (13, iI i), (14, bT), (15, iI i), (5, iI i), (16, .func (.func 236) #[] #[pT g3 0, pT g1 0]), (17, iI i), (18, bT), (19, bF)] rfl
   refine Dn F [some (pT g3 0), some (cv), some (pT g3 1), some (bv), some (pT g3 3), some (iI st.ago), none, none, none] (fun L A w => ∃ v3 : Value, ∃ v4 : Value, (L 6 = true → A.eval (.tmp 30) = v3) ∧ (L 7 = true → A.eval (.tmp 31) = v4) ∧ (L 8 = true → A.eval (.tmp 6) = v4) ∧ Sx.Own w0 w [(true, g3, [cv, bv, iI st.n, iI st.ago]), (true, g1, [.slice ada m capa]), (true, g2, [nS, nS, iI 0, iI 0])] [⟨true, cv, 22, 1, (Gf.ws (st.c)).length, (Gf.cells (Gf.ws (st.c)))⟩, ⟨true, bv, 22, 1, (Gf.ws (st.b)).length, (Gf.cells (Gf.ws (st.b)))⟩, ⟨L 6, v3, 22, 1, (Gf.ws (st.b <<< st.ago)).length, (Gf.cells (Gf.ws (st.b <<< st.ago)))⟩, ⟨L 7, v4, 22, 1, (Gf.ws (st.c ^^^ (st.b <<< st.ago))).length, (Gf.cells (Gf.ws (st.c ^^^ (st.b <<< st.ago))))⟩]) ⟨undef, undef, (fun h => by cases h), (fun h => by cases h), (fun h => by cases h), H.drew.pad [] rfl [⟨false, undef, 22, 1, (Gf.ws (st.b <<< st.ago)).length, (Gf.cells (Gf.ws (st.b <<< st.ago)))⟩, ⟨false, undef, 22, 1, (Gf.ws (st.c ^^^ (st.b <<< st.ago))).length, (Gf.cells (Gf.ws (st.c ^^^ (st.b <<< st.ago))))⟩] rfl⟩ ?_ ?_
   ·refine ⟨?_, ?_, ?_, ?_, ?_, ?_, ?_, ?_, ?_, trivial⟩
    ·intro L A w up hun hd F ⟨v3, v4, p6, p7, p8, H⟩
     have f1 : L 1 = false := up 1 0 rfl hun
     have f7 : L 7 = false := up 7 1 rfl f1
     have f8 : L 8 = false := up 8 0 rfl hun
     have Hj := H; rw [f7] at Hj
     refine step_on rfl (Fd F (fa_301_0.default.h _ _ _)) ?_
     rintro xv w' ⟨hx, rfl⟩
     exact ⟨Cs hx, ⟨v3, v4, Pk p6, Nf f7, Nf f8, H⟩⟩
    ·intro L A w up hun hd F ⟨v3, v4, p6, p7, p8, H⟩
     have f7 : L 7 = false := up 7 1 rfl hun
     have f8 : L 8 = false := up 8 1 rfl hun
     have Hj := H; rw [f7] at Hj
     refine step_on rfl (Ld 0 one_274 F Hj) ?_
     rintro xv w' ⟨hx, rfl⟩
     exact ⟨Cs hx, ⟨v3, v4, Pk p6, Nf f7, Nf f8, H⟩⟩
    ·intro L A w up hun hd F ⟨v3, v4, p6, p7, p8, H⟩
     have f3 : L 3 = false := up 3 2 rfl hun
     have f6 : L 6 = false := up 6 3 rfl f3
     have f7 : L 7 = false := up 7 6 rfl f6
     have f8 : L 8 = false := up 8 2 rfl hun
     have Hj := H; rw [f6, f7] at Hj
     refine step_on rfl (Fd F (fa_301_1.default.h _ _ _)) ?_
     rintro xv w' ⟨hx, rfl⟩
     exact ⟨Cs hx, ⟨v3, v4, Nf f6, Nf f7, Nf f8, H⟩⟩
    ·intro L A w up hun hd F ⟨v3, v4, p6, p7, p8, H⟩
     have f6 : L 6 = false := up 6 3 rfl hun
     have f7 : L 7 = false := up 7 6 rfl f6
     have f8 : L 8 = false := up 8 3 rfl hun
     have Hj := H; rw [f6, f7] at Hj
     refine step_on rfl (Ld 0 one_274 F Hj) ?_
     rintro xv w' ⟨hx, rfl⟩
     exact ⟨Cs hx, ⟨v3, v4, Nf f6, Nf f7, Nf f8, H⟩⟩
    ·intro L A w up hun hd F ⟨v3, v4, p6, p7, p8, H⟩
     have f5 : L 5 = false := up 5 4 rfl hun
     have f6 : L 6 = false := up 6 5 rfl f5
     have f7 : L 7 = false := up 7 6 rfl f6
     have f8 : L 8 = false := up 8 4 rfl hun
     have Hj := H; rw [f6, f7] at Hj
     refine step_on rfl (Fd F (fa_301_3.default.h _ _ _)) ?_
     rintro xv w' ⟨hx, rfl⟩
     exact ⟨Cs hx, ⟨v3, v4, Nf f6, Nf f7, Nf f8, H⟩⟩
    ·intro L A w up hun hd F ⟨v3, v4, p6, p7, p8, H⟩
     have f6 : L 6 = false := up 6 5 rfl hun
     have f7 : L 7 = false := up 7 6 rfl f6
     have f8 : L 8 = false := up 8 5 rfl hun
     have Hj := H; rw [f6, f7] at Hj
     refine step_on rfl (Ld 0 one_3 F Hj) ?_
     rintro xv w' ⟨hx, rfl⟩
     exact ⟨Cs hx, ⟨v3, v4, Nf f6, Nf f7, Nf f8, H⟩⟩
    ·intro L A w up hun hd F ⟨v3, v4, p6, p7, p8, H⟩
     have f6 : L 6 = false := hun
     have f7 : L 7 = false := up 7 6 rfl hun
     have f8 : L 8 = false := up 8 6 rfl hun
     rw [f6, f7] at H
     refine step_on rfl (d_callR_at 2 (vs := [bv, iI st.ago]) (mk := fun v => v) if_225 F H rfl rfl (gup_c st.ago (by omega) _ (Gf.ws (st.b)) st.b (Gf.val_ws _) (by omega) _ (Gf.Rd.row (H.row 1 _ rfl rfl) rfl rfl (by omega)))) ?_
     rintro xv w' ⟨v', hx, H⟩
     exact ⟨Cn, ⟨v', v4, (fun _ => (Sx.put_same F (by decide) _).trans hx), Nf f7, Nf f8, (by show Sx.Own _ _ _ _; rw [show Inv.add L 6 7 = false from f7]; exact H)⟩⟩
    ·intro L A w up hun hd F ⟨v3, v4, p6, p7, p8, H⟩
     have t6 : L 6 = true := hd 6 rfl
     have f7 : L 7 = false := hun
     have f8 : L 8 = false := up 8 7 rfl hun
     rw [t6, f7] at H
     have F := Fr.add F (p6 t6)
     refine step_on rfl (d_callR_at 3 (vs := [cv, v3]) (mk := fun v => v) if_228 F H rfl rfl (gadd_c _ _ (Gf.ws (st.c)) (Gf.ws (st.b <<< st.ago)) st.c (st.b <<< st.ago) (Gf.val_ws _) (Gf.val_ws _) _ (Gf.Rd.row (H.row 0 _ rfl rfl) rfl rfl (by omega)) (Gf.Rd.row (H.row 2 _ rfl rfl) rfl rfl (by omega)))) ?_
     rintro xv w' ⟨v', hx, H⟩
     exact ⟨Cn, ⟨v3, v', Pk p6, (fun _ => (Sx.put_same F (by decide) _).trans hx), Nf f8, (by show Sx.Own _ _ _ _; rw [show Inv.add L 7 6 = true from t6]; exact H)⟩⟩
    ·intro L A w up hun hd F ⟨v3, v4, p6, p7, p8, H⟩
     have t6 : L 6 = true := hd 6 rfl
     have t7 : L 7 = true := hd 7 rfl
     have f8 : L 8 = false := hun
     have Hj := H; rw [t6, t7] at Hj
     have F := Fr.add F (p6 t6)
     have F := Fr.add F (p7 t7)
     refine step_on rfl (d_move F (Or.inr rfl) rfl) ?_
     rintro xv w' ⟨hx, rfl⟩
     exact ⟨Cn, ⟨v3, v4, Pk p6, Pk p7, (fun _ => (Sx.put_same F (by decide) _).trans hx), H⟩⟩
   ·intro L A w hL F ⟨v3, v4, p6, p7, p8, H⟩
    have t6 : L 6 = true := hL 6 rfl
    have t7 : L 7 = true := hL 7 rfl
    have t8 : L 8 = true := hL 8 rfl
    rw [t6, t7] at H
    have F := Fr.add F (p6 t6)
    have F := Fr.add F (p7 t7)
    have F := Fr.add F (p8 t8)
    have F := F.tq [(1, pT g1 0), (2, pT g2 0), (3, pT g3 0), (4, .func (.func 236) #[] #[pT g3 0, pT g1 0]), (12, iI m), (13, iI i), (14, bT), (15, iI i), (5, iI i), (16, .func (.func 236) #[] #[pT g3 0, pT g1 0]), (17, iI i), (18, bT), (19, bF), (6, v4)] rfl
    refine hK15 _ _ ?_
    by_cases h2 : 2 * st.n ≤ i
    ·rw [if_pos h2] at hrun
     refine Sx.seq fun K16 hK16 => Sp fun _ kk => ?_
     iterate 2 (refine Av F ?_; intro A F)
     refine Zv F (Bn (iI (2 * st.n : Nat)) F rfl rfl rfl (i_mulN rfl (in_i64 _ (by omega)))) fun A F => ?_
     refine Av F fun A F => ?_
     refine Zv F (Bn bT F rfl rfl rfl (i_le (decide_eq_true (by omega)))) fun A F => ?_
     refine Nl kk (condT F rfl (Sp fun _ kk => ?_))
     iterate 4 (refine Av F ?_; intro A F)
     refine Zv F (Bn (iI (i + 1 : Nat)) F rfl rfl rfl (i_addN rfl (in_i64 _ (by omega)))) fun A F => ?_
     iterate 2 (refine Av F ?_; intro A F)
     refine Zv F (Bn (iI (i + 1 - st.n : Nat)) F rfl rfl rfl (i_subS (by rw [in64 _ (by omega)]; omega))) fun A F => ?_
     refine Zv F (d_build (qs := #[(0, v4), (1, cv), (2, iI (i + 1 - st.n : Nat)), (3, iI 1)]) (v := .agg #[v4, cv, iI (i + 1 - st.n : Nat), iI 1]) F rfl rfl (by obtain ⟨_, _, hv0⟩ := Sx.len_of (k := (Gf.ws (st.c ^^^ (st.b <<< st.ago))).length) (v := v4) (rowEq (H.row 3 _ rfl rfl) rfl rfl rfl rfl rfl); obtain ⟨_, _, hv1⟩ := Sx.len_of (k := (Gf.ws (st.c)).length) (v := cv) (rowEq (H.row 0 _ rfl rfl) rfl rfl rfl rfl rfl); rw [hv0, hv1]; kernel_rfl)) fun A F => ?_
     refine Zt F (d_store (i := 0) (xs := [v4, cv, iI (i + 1 - st.n : Nat), iI 1]) (us := [v4, cv, iI (i + 1 - st.n : Nat), iI 1]) sz_301 F H rfl rfl rfl (rfl) rfl (by obtain ⟨_, _, hv0⟩ := Sx.len_of (k := (Gf.ws (st.c ^^^ (st.b <<< st.ago))).length) (v := v4) (rowEq (H.row 3 _ rfl rfl) rfl rfl rfl rfl rfl); obtain ⟨_, _, hv1⟩ := Sx.len_of (k := (Gf.ws (st.c)).length) (v := cv) (rowEq (H.row 0 _ rfl rfl) rfl rfl rfl rfl rfl); rw [hv0, hv1]; rfl) rfl (Nat.le_of_ble_eq_true rfl) rfl) fun A w F (H : Sx.Own w0 _ [(true, g3, [v4, cv, iI (i + 1 - st.n : Nat), iI 1]), (true, g1, [.slice ada m capa]), (true, g2, [nS, nS, iI 0, iI 0])] [⟨true, cv, 22, 1, (Gf.ws (st.c)).length, (Gf.cells (Gf.ws (st.c)))⟩, ⟨true, bv, 22, 1, (Gf.ws (st.b)).length, (Gf.cells (Gf.ws (st.b)))⟩, ⟨true, v3, 22, 1, (Gf.ws (st.b <<< st.ago)).length, (Gf.cells (Gf.ws (st.b <<< st.ago)))⟩, ⟨true, v4, 22, 1, (Gf.ws (st.c ^^^ (st.b <<< st.ago))).length, (Gf.cells (Gf.ws (st.c ^^^ (st.b <<< st.ago))))⟩]) => ?_
     refine Nl kk (wp_exit ?_)
     try dsimp only [Exit.then, Exit.jump, Exit.noGoto]
     refine exit_here (hK8 _ _ (Sx.plain ?_))
     refine Zv F (Bn (iI (i + 1 : Nat)) F rfl rfl rfl (i_addN rfl (in_i64 _ (by omega)))) fun A F => ?_
     refine Av F fun A F => ?_
     refine Sx.nil ?_
     try dsimp only [Exit.then, Exit.noGoto]
     exact ⟨m - (i + 1), by omega, i + 1, v4, cv, rfl, by omega, F.to ⟨rfl, rfl, rfl, rfl, rfl, rfl, trivial⟩, by rw [hrun]; exact H.to' [0, 1, 2] [3, 0] (by decide) (by decide) rfl rfl⟩
    ·rw [if_neg h2] at hrun
     refine Sx.seq fun K19 hK19 => Sp fun _ kk => ?_
     iterate 2 (refine Av F ?_; intro A F)
     refine Zv F (Bn (iI (2 * st.n : Nat)) F rfl rfl rfl (i_mulN rfl (in_i64 _ (by omega)))) fun A F => ?_
     refine Av F fun A F => ?_
     refine Zv F (Bn bF F rfl rfl rfl (i_le (decide_eq_false (by omega)))) fun A F => ?_
     refine Nl kk (condF F rfl (wp_skip (hK19 _ _ (Sp fun _ kk => ?_))))
     iterate 2 (refine Av F ?_; intro A F)
     refine Zt F (d_store (i := 0) (xs := [v4]) (us := [v4, bv, iI st.n, iI st.ago]) sz_274 F H rfl rfl rfl (by obtain ⟨_, _, hv0⟩ := Sx.len_of (k := (Gf.ws (st.c ^^^ (st.b <<< st.ago))).length) (v := v4) (rowEq (H.row 3 _ rfl rfl) rfl rfl rfl rfl rfl); rw [hv0]; rfl) rfl (by obtain ⟨_, _, hv0⟩ := Sx.len_of (k := (Gf.ws (st.c ^^^ (st.b <<< st.ago))).length) (v := v4) (rowEq (H.row 3 _ rfl rfl) rfl rfl rfl rfl rfl); rw [hv0]; rfl) rfl (Nat.le_of_ble_eq_true rfl) rfl) fun A w F (H : Sx.Own w0 _ [(true, g3, [v4, bv, iI st.n, iI st.ago]), (true, g1, [.slice ada m capa]), (true, g2, [nS, nS, iI 0, iI 0])] [⟨true, cv, 22, 1, (Gf.ws (st.c)).length, (Gf.cells (Gf.ws (st.c)))⟩, ⟨true, bv, 22, 1, (Gf.ws (st.b)).length, (Gf.cells (Gf.ws (st.b)))⟩, ⟨true, v3, 22, 1, (Gf.ws (st.b <<< st.ago)).length, (Gf.cells (Gf.ws (st.b <<< st.ago)))⟩, ⟨true, v4, 22, 1, (Gf.ws (st.c ^^^ (st.b <<< st.ago))).length, (Gf.cells (Gf.ws (st.c ^^^ (st.b <<< st.ago))))⟩]) => ?_
     refine Nl kk (Sx.plain ?_)
     iterate 2 (refine Av F ?_; intro A F)
     refine Zv F (Bn (iI (st.ago + 1 : Nat)) F rfl rfl rfl (i_addN rfl (in_i64 _ (by omega)))) fun A F => ?_
     refine Av F fun A F => ?_
     refine Zt F (d_store (i := 0) (xs := [iI (st.ago + 1 : Nat)]) (us := [v4, bv, iI st.n, iI (st.ago + 1 : Nat)]) sz_3 F H rfl rfl rfl rfl rfl rfl rfl (Nat.le_of_ble_eq_true rfl) rfl) fun A w F (H : Sx.Own w0 _ [(true, g3, [v4, bv, iI st.n, iI (st.ago + 1 : Nat)]), (true, g1, [.slice ada m capa]), (true, g2, [nS, nS, iI 0, iI 0])] [⟨true, cv, 22, 1, (Gf.ws (st.c)).length, (Gf.cells (Gf.ws (st.c)))⟩, ⟨true, bv, 22, 1, (Gf.ws (st.b)).length, (Gf.cells (Gf.ws (st.b)))⟩, ⟨true, v3, 22, 1, (Gf.ws (st.b <<< st.ago)).length, (Gf.cells (Gf.ws (st.b <<< st.ago)))⟩, ⟨true, v4, 22, 1, (Gf.ws (st.c ^^^ (st.b <<< st.ago))).length, (Gf.cells (Gf.ws (st.c ^^^ (st.b <<< st.ago))))⟩]) => ?_
     refine Sx.nil (hK8 _ _ (Sx.plain ?_))
     refine Zv F (Bn (iI (i + 1 : Nat)) F rfl rfl rfl (i_addN rfl (in_i64 _ (by omega)))) fun A F => ?_
     refine Av F fun A F => ?_
     refine Sx.nil ?_
     try dsimp only [Exit.then, Exit.noGoto]
     exact ⟨m - (i + 1), by omega, i + 1, v4, bv, rfl, by omega, F.to ⟨rfl, rfl, rfl, rfl, rfl, rfl, trivial⟩, by rw [hrun]; exact H.to' [0, 1, 2] [3, 1] (by decide) (by decide) rfl rfl⟩
 ·have hie_i : m = i := by omega
  subst hie_i
  refine Sp fun _ kk => Zv F (Bn bF F rfl rfl rfl (i_lt (by simp))) fun A F => ?_
  refine Nl kk (Sx.seq fun K23 hK23 => condF F rfl (wp_exit ?_))
  try dsimp only [Exit.then, Exit.jump, Exit.noGoto]
  refine exit_here (hK4 _ _ (Sp fun _ kk => Av F fun A F => ?_))
  refine Zt F (d_store (i := 2) (xs := [cv, bv, iI ((Ms.run f m).n), iI ((Ms.run f m).ago)]) (us := [cv, bv, iI ((Ms.run f m).n), iI ((Ms.run f m).ago)]) sz_301 F H rfl rfl rfl (rfl) rfl (by obtain ⟨_, _, hv0⟩ := Sx.len_of (k := (Gf.ws ((Ms.run f m).c)).length) (v := cv) (rowEq (H.row 0 _ rfl rfl) rfl rfl rfl rfl rfl); obtain ⟨_, _, hv1⟩ := Sx.len_of (k := (Gf.ws ((Ms.run f m).b)).length) (v := bv) (rowEq (H.row 1 _ rfl rfl) rfl rfl rfl rfl rfl); rw [hv0, hv1]; rfl) rfl (Nat.le_of_ble_eq_true rfl) rfl) fun A w F (H : Sx.Own w0 _ [(true, g3, [cv, bv, iI ((Ms.run f m).n), iI ((Ms.run f m).ago)]), (true, g1, [.slice ada m capa]), (true, g2, [cv, bv, iI ((Ms.run f m).n), iI ((Ms.run f m).ago)])] [⟨true, cv, 22, 1, (Gf.ws ((Ms.run f m).c)).length, (Gf.cells (Gf.ws ((Ms.run f m).c)))⟩, ⟨true, bv, 22, 1, (Gf.ws ((Ms.run f m).b)).length, (Gf.cells (Gf.ws ((Ms.run f m).b)))⟩]) => ?_
  refine Nl kk (Wr (ret1 F Tryz.results227 (res_row (i := 2) (xs := [cv, bv, iI ((Ms.run f m).n), iI ((Ms.run f m).ago)]) rw_301 F H rfl rfl rfl rfl) ?_))
  exact ⟨_, _, rfl, H.to' [] [0, 1] (by decide) (by decide) rfl rfl⟩
theorem mssearch_c (f : Nat → Bool) (m : Nat) (v : Value) (w : World) (h : Ms.Rd w v f m) : Calls Tryz.prog 227 #[v] w fun e w' => ∃ c b : Value, e = .returned (.agg #[c, b, .int .i64 ((Ms.run f m).n : Nat), .int .i64 ((Ms.run f m).ago : Nat)]) ∧ Sx.Own w w' [] [⟨true, c, 22, 1, (Gf.ws (Ms.run f m).c).length, (Gf.cells (Gf.ws (Ms.run f m).c))⟩, ⟨true, b, 22, 1, (Gf.ws (Ms.run f m).b).length, (Gf.cells (Gf.ws (Ms.run f m).b))⟩] := by
  obtain ⟨hm, ada, capa, rfl, hr⟩ := h
  exact mssearch_1 f m ada capa hm w ⟨hm, ada, capa, rfl, hr⟩
open Sx in
theorem msleast_1 (f : Nat → Bool) (m : Nat) (ada : Option Addr) (capa : Nat) (hm : m ≤ 2000) (ht : 2 * (Ms.run f m).n ≤ m) (w0 : World) (hrl : Ms.Rd w0 (.slice ada m capa) f m) : Calls Tryz.prog 219 #[.slice ada m capa] w0 fun e w' => ∃ v, e = .returned (.tuple #[v, bT]) ∧ w'.ownsRow w0.heap.size 22 1 v (Gf.ws (Ms.rev (Ms.run f m).c (Ms.run f m).n ((Ms.run f m).n + 1))).length (Gf.cells (Gf.ws (Ms.rev (Ms.run f m).c (Ms.run f m).n ((Ms.run f m).n + 1)))) ∧ Below w0.heap.size w0 w' := by
 have hok := Ms.run_ok f m
 obtain ⟨hl1, hl2, hl3, hl4⟩ := hok.lens hm
 have hn := hok.n
 refine En Tryz.func219 Tryz.ntmps219 fun A F => ?_
 have H := Sx.Own.start w0
 refine Sp fun _ kk => ?_
 iterate 2 (refine Av F ?_; intro A F)
 refine Nl kk (Sx.seq fun K2 hK2 => Sp fun _ kk => Av F fun A F => ?_)
 refine Zv F (d_lenS el_285 F rfl rfl) fun A F => ?_
 refine Zv F (Bn bF F rfl rfl rfl (i_gt (decide_eq_false (by omega)))) fun A F => ?_
 refine Nl kk (condF F rfl (wp_skip (hK2 _ _ (Sp fun _ kk => Av F fun A F => ?_))))
 refine Sx.srr (mk := fun c b => .agg #[c, b, iI ((Ms.run f m).n), iI ((Ms.run f m).ago)]) F (d_callO (vs := [.slice ada m capa]) if_227 F rfl rfl (Sx.rr (mk := fun c b => .agg #[c, b, iI ((Ms.run f m).n), iI ((Ms.run f m).ago)]) (C := fun c b => [⟨true, c, 22, 1, (Gf.ws ((Ms.run f m).c)).length, (Gf.cells (Gf.ws ((Ms.run f m).c)))⟩, ⟨true, b, 22, 1, (Gf.ws ((Ms.run f m).b)).length, (Gf.cells (Gf.ws ((Ms.run f m).b)))⟩]) H (mssearch_c f m _ _ ((hrl).below H.below)))) (wanted_none rfl _) rfl (by decide) (fun v1 v2 A w F (H : Sx.Own w0 _ [] [⟨true, v1, 22, 1, (Gf.ws ((Ms.run f m).c)).length, (Gf.cells (Gf.ws ((Ms.run f m).c)))⟩, ⟨true, v2, 22, 1, (Gf.ws ((Ms.run f m).b)).length, (Gf.cells (Gf.ws ((Ms.run f m).b)))⟩]) => ?_)
 refine Zb F (d_alloc H rfl [nS, nS, iI 0, iI 0] zero_301) fun g1 A w F H => ?_
 refine Zt F (d_store (i := 0) (xs := [v1, v2, iI ((Ms.run f m).n), iI ((Ms.run f m).ago)]) (us := [v1, v2, iI ((Ms.run f m).n), iI ((Ms.run f m).ago)]) sz_301 F H rfl rfl rfl (rfl) rfl (by obtain ⟨_, _, hv0⟩ := Sx.len_of (k := (Gf.ws ((Ms.run f m).c)).length) (v := v1) (rowEq (H.row 0 _ rfl rfl) rfl rfl rfl rfl rfl); obtain ⟨_, _, hv1⟩ := Sx.len_of (k := (Gf.ws ((Ms.run f m).b)).length) (v := v2) (rowEq (H.row 1 _ rfl rfl) rfl rfl rfl rfl rfl); rw [hv0, hv1]; rfl) rfl (Nat.le_of_ble_eq_true rfl) rfl) fun A w F (H : Sx.Own w0 _ [(true, g1, [v1, v2, iI ((Ms.run f m).n), iI ((Ms.run f m).ago)])] [⟨true, v1, 22, 1, (Gf.ws ((Ms.run f m).c)).length, (Gf.cells (Gf.ws ((Ms.run f m).c)))⟩, ⟨true, v2, 22, 1, (Gf.ws ((Ms.run f m).b)).length, (Gf.cells (Gf.ws ((Ms.run f m).b)))⟩]) => ?_
 refine Nl kk (Sx.seq fun K5 hK5 => Sp fun _ kk => ?_)
 iterate 2 (refine Av F ?_; intro A F)
 refine Zv F (Bn (iI (2 * (Ms.run f m).n : Nat)) F rfl rfl rfl (i_mulN rfl (in_i64 _ (by omega)))) fun A F => ?_
 refine Av F fun A F => ?_
 refine Zv F (d_lenS el_285 F rfl rfl) fun A F => ?_
 refine Zv F (Bn bF F rfl rfl rfl (i_gt (decide_eq_false (by omega)))) fun A F => ?_
 refine Nl kk (condF F rfl (wp_skip (hK5 _ _ (Sp fun _ kk => Av F fun A F => ?_))))
 refine Nl kk (Sx.seq fun K8 hK8 => Sp fun _ kk => ?_)
 iterate 2 (refine Av F ?_; intro A F)
 refine Zv F (Bn (iI ((Ms.run f m).n + 1 : Nat)) F rfl rfl rfl (i_addN rfl (in_i64 _ (by omega)))) fun A F => ?_
 refine Av F fun A F => ?_
 refine Nl kk (wp_block ?_)
 have hz : Gf.ws (Ms.rev (Ms.run f m).c (Ms.run f m).n 0) = [] := Gf.ws_zero
 have H := Sx.Own.nilR H 22 1
 have H : Sx.Own w0 w [(true, g1, [v1, v2, iI ((Ms.run f m).n), iI ((Ms.run f m).ago)])] [⟨true, nS, 22, 1, (Gf.ws (Ms.rev (Ms.run f m).c (Ms.run f m).n 0)).length, (Gf.cells (Gf.ws (Ms.rev (Ms.run f m).c (Ms.run f m).n 0)))⟩, ⟨true, v1, 22, 1, (Gf.ws ((Ms.run f m).c)).length, (Gf.cells (Gf.ws ((Ms.run f m).c)))⟩, ⟨true, v2, 22, 1, (Gf.ws ((Ms.run f m).b)).length, (Gf.cells (Gf.ws ((Ms.run f m).b)))⟩] := by rw [hz]; exact H
 refine loop (fun q A w => ∃ (k : Nat) (u : Value), q = ((Ms.run f m).n + 1) - k ∧ k ≤ ((Ms.run f m).n + 1) ∧ Fr 38 A [(2, nS), (3, bF), (4, pT g1 0), (20, iI ((Ms.run f m).n + 1 : Nat)), (5, u), (21, iI k)] ∧ Sx.Own w0 w [(true, g1, [v1, v2, iI ((Ms.run f m).n), iI ((Ms.run f m).ago)])] [⟨true, u, 22, 1, (Gf.ws (Ms.rev (Ms.run f m).c (Ms.run f m).n k)).length, (Gf.cells (Gf.ws (Ms.rev (Ms.run f m).c (Ms.run f m).n k)))⟩, ⟨true, v1, 22, 1, (Gf.ws ((Ms.run f m).c)).length, (Gf.cells (Gf.ws ((Ms.run f m).c)))⟩, ⟨true, v2, 22, 1, (Gf.ws ((Ms.run f m).b)).length, (Gf.cells (Gf.ws ((Ms.run f m).b)))⟩]) (((Ms.run f m).n + 1) - 0) ⟨0, (nS), rfl, Nat.zero_le _, F.to ⟨rfl, rfl, rfl, rfl, rfl, rfl, trivial⟩, H⟩ ?_
 rintro q A w ⟨k, u, rfl, hi_k, F, H⟩
 by_cases hlt_k : k < ((Ms.run f m).n + 1)
 ·skip
  have hl5 := Gf.lim_len (Gf.lim_of (n := 40) (Ms.rev_lt (Ms.run f m).c (Ms.run f m).n k) (by omega))
  have hl6 := Gf.lim_len (Gf.lim_one (n := k) (m := 40) (by omega))
  refine Sp fun _ kk => Zv F (Bn bT F rfl rfl rfl (i_lt (decide_eq_true (by omega)))) fun A F => ?_
  refine Nl kk (Sx.seq fun K11 hK11 => condT F rfl (wp_skip (hK11 _ _ (Sx.seq fun K12 hK12 => wp_block (Sp fun _ kk => ?_)))))
  iterate 2 (refine Av F ?_; intro A F)
  refine Nl kk ?_
  cases hb : Nat.testBit (Ms.run f m).c ((Ms.run f m).n - k)
  ·have hv : Ms.rev (Ms.run f m).c (Ms.run f m).n (k + 1) = Ms.rev (Ms.run f m).c (Ms.run f m).n k := if_neg (by rw [hb]; decide)
   refine Sp fun _ kk => ?_
   iterate 5 (refine Av F ?_; intro A F)
   refine Zv F (Bn (iI ((Ms.run f m).n - k : Nat)) F rfl rfl rfl (i_subS (by rw [in64 _ (by omega)]; omega))) fun A F => ?_
   refine Zw F (Dc if_210 F H (gbit_c ((Ms.run f m).n - k) _ (Gf.ws ((Ms.run f m).c)) ((Ms.run f m).c) (Gf.val_ws _) _ (by omega) (Gf.Rd.row (H.row 1 _ rfl rfl) rfl rfl (by omega)))) fun A w F H => ?_
   refine Zv F (Bn bF F rfl rfl rfl (i_eq (by rw [hb]; rfl))) fun A F => ?_
   refine Nl kk (condF F rfl (wp_skip (hK12 _ _ (Sx.plain ?_))))
   refine Zv F (Bn (iI (k + 1 : Nat)) F rfl rfl rfl (i_addN rfl (in_i64 _ (by omega)))) fun A F => ?_
   refine Av F fun A F => ?_
   refine Sx.nil ?_
   try dsimp only [Exit.then, Exit.noGoto]
   exact ⟨((Ms.run f m).n + 1) - (k + 1), by omega, k + 1, u, rfl, by omega, F.to ⟨rfl, rfl, rfl, rfl, rfl, rfl, trivial⟩, by rw [hv]; exact H⟩
  ·have hv : Ms.rev (Ms.run f m).c (Ms.run f m).n (k + 1) = Ms.rev (Ms.run f m).c (Ms.run f m).n k ^^^ 1 <<< k := if_pos hb
   refine Sp fun _ kk => ?_
   iterate 5 (refine Av F ?_; intro A F)
   refine Zv F (Bn (iI ((Ms.run f m).n - k : Nat)) F rfl rfl rfl (i_subS (by rw [in64 _ (by omega)]; omega))) fun A F => ?_
   refine Zw F (Dc if_210 F H (gbit_c ((Ms.run f m).n - k) _ (Gf.ws ((Ms.run f m).c)) ((Ms.run f m).c) (Gf.val_ws _) _ (by omega) (Gf.Rd.row (H.row 1 _ rfl rfl) rfl rfl (by omega)))) fun A w F H => ?_
   refine Zv F (Bn bT F rfl rfl rfl (i_eq (by rw [hb]; rfl))) fun A F => ?_
   refine Nl kk (condT F rfl (Sx.plain ?_))
   iterate 2 (refine Av F ?_; intro A F)
   refine Zr (mk := fun v => v) F (d_callR (vs := [iI k]) (mk := fun v => v) if_217 F H rfl rfl (gx_c k (by omega) _)) fun v3 A w F (H : Sx.Own w0 _ [(true, g1, [v1, v2, iI ((Ms.run f m).n), iI ((Ms.run f m).ago)])] [⟨true, v3, 22, 1, (Gf.ws (1 <<< k)).length, (Gf.cells (Gf.ws (1 <<< k)))⟩, ⟨true, u, 22, 1, (Gf.ws (Ms.rev (Ms.run f m).c (Ms.run f m).n k)).length, (Gf.cells (Gf.ws (Ms.rev (Ms.run f m).c (Ms.run f m).n k)))⟩, ⟨true, v1, 22, 1, (Gf.ws ((Ms.run f m).c)).length, (Gf.cells (Gf.ws ((Ms.run f m).c)))⟩, ⟨true, v2, 22, 1, (Gf.ws ((Ms.run f m).b)).length, (Gf.cells (Gf.ws ((Ms.run f m).b)))⟩]) => ?_
   refine Zr (mk := fun v => v) F (d_callR (vs := [u, v3]) (mk := fun v => v) if_228 F H rfl rfl (gadd_c _ _ (Gf.ws (Ms.rev (Ms.run f m).c (Ms.run f m).n k)) (Gf.ws (1 <<< k)) (Ms.rev (Ms.run f m).c (Ms.run f m).n k) (1 <<< k) (Gf.val_ws _) (Gf.val_ws _) _ (Gf.Rd.row (H.row 1 _ rfl rfl) rfl rfl (by omega)) (Gf.Rd.row (H.row 0 _ rfl rfl) rfl rfl (by omega)))) fun v4 A w F (H : Sx.Own w0 _ [(true, g1, [v1, v2, iI ((Ms.run f m).n), iI ((Ms.run f m).ago)])] [⟨true, v4, 22, 1, (Gf.ws ((Ms.rev (Ms.run f m).c (Ms.run f m).n k) ^^^ (1 <<< k))).length, (Gf.cells (Gf.ws ((Ms.rev (Ms.run f m).c (Ms.run f m).n k) ^^^ (1 <<< k))))⟩, ⟨true, v3, 22, 1, (Gf.ws (1 <<< k)).length, (Gf.cells (Gf.ws (1 <<< k)))⟩, ⟨true, u, 22, 1, (Gf.ws (Ms.rev (Ms.run f m).c (Ms.run f m).n k)).length, (Gf.cells (Gf.ws (Ms.rev (Ms.run f m).c (Ms.run f m).n k)))⟩, ⟨true, v1, 22, 1, (Gf.ws ((Ms.run f m).c)).length, (Gf.cells (Gf.ws ((Ms.run f m).c)))⟩, ⟨true, v2, 22, 1, (Gf.ws ((Ms.run f m).b)).length, (Gf.cells (Gf.ws ((Ms.run f m).b)))⟩]) => ?_
   refine Av F fun A F => ?_
   refine Sx.nil (hK12 _ _ (Sx.plain ?_))
   refine Zv F (Bn (iI (k + 1 : Nat)) F rfl rfl rfl (i_addN rfl (in_i64 _ (by omega)))) fun A F => ?_
   refine Av F fun A F => ?_
   refine Sx.nil ?_
   try dsimp only [Exit.then, Exit.noGoto]
   exact ⟨((Ms.run f m).n + 1) - (k + 1), by omega, k + 1, v4, rfl, by omega, F.to ⟨rfl, rfl, rfl, rfl, rfl, rfl, trivial⟩, by rw [hv]; exact H.to' [0] [0, 3, 4] (by decide) (by decide) rfl rfl⟩
 ·have hie_k : k = ((Ms.run f m).n + 1) := by omega
  rw [hie_k] at F
  try rw [hie_k] at H
  refine Sp fun _ kk => Zv F (Bn bF F rfl rfl rfl (i_lt (decide_eq_false (by omega)))) fun A F => ?_
  refine Nl kk (Sx.seq fun K17 hK17 => condF F rfl (wp_exit ?_))
  try dsimp only [Exit.then, Exit.jump, Exit.noGoto]
  refine exit_here (hK8 _ _ (Sp fun _ kk => ?_))
  iterate 3 (refine Av F ?_; intro A F)
  refine Nl kk (Wr (ret2 F Tryz.results219 (res_tmp F rfl) (res_tmp F rfl) ?_))
  exact ⟨_, rfl, H.row 0 _ rfl rfl, H.below⟩
theorem msleast_c (f : Nat → Bool) (m : Nat) (ht : 2 * (Ms.run f m).n ≤ m) (v : Value) (w : World) (h : Ms.Rd w v f m) : Calls Tryz.prog 219 #[v] w fun e w' => ∃ v, e = .returned (.tuple #[v, .bool true]) ∧ w'.ownsRow w.heap.size 22 1 v (Gf.ws (Ms.rev (Ms.run f m).c (Ms.run f m).n ((Ms.run f m).n + 1))).length (Gf.cells (Gf.ws (Ms.rev (Ms.run f m).c (Ms.run f m).n ((Ms.run f m).n + 1)))) ∧ Below w.heap.size w w' := by
  obtain ⟨hm, ada, capa, rfl, hr⟩ := h
  exact msleast_1 f m ada capa hm ht w ⟨hm, ada, capa, rfl, hr⟩
section
namespace Xj
open Xo
def s1 : St := ⟨1#64, 0#64, 0#64, 0#64⟩
def bits512 : Nat := 0x461d44b655b96d08fa9933b3b0e6d9fa7fbb416f3023041c593a55c47ea1ad41d4b1a0c7e6e51adb15e1fe5a6b7ae733270466d1a5db9d3c134e10fdeae665cb
def leastC : Nat := 0x1001e1e1ba9ed1172f4b17ee7a800028143f348c9e76e5a4131a6f9f878078001
def lowN : Nat → Nat → Nat → Nat → Nat → Nat → Bool
  | 0, _, _, _, _, _ => true
  | n + 1, L, a, b, c, d => and (Nat.beq (Nat.mod a 2) (Nat.mod L 2))
    (lowN n (Nat.div L 2) (Nat.xor a (Nat.xor d b)) (Nat.xor b (Nat.xor c a)) (Nat.xor (Nat.xor c a) (Nat.mod (Nat.shiftLeft b 17) M)) (Nat.lor (Nat.mod (Nat.shiftLeft (Nat.xor d b) 45) M) (Nat.shiftRight (Nat.xor d b) 19)))
theorem low_nat (s : St) : low s = decide (s.a.toNat % 2 = 1) := by
  unfold low
  rw [BitVec.toNat_and, show (1#64).toNat = 1 from rfl, Nat.and_one_is_mod]
  have : s.a.toNat % 2 = 0 ∨ s.a.toNat % 2 = 1 := by omega
  rcases this with e | e <;> rw [e] <;> rfl
theorem lowN_ok : ∀ (n L : Nat) (s : St), lowN n L s.a.toNat s.b.toNat s.c.toNat s.d.toNat = true → ∀ k, k < n → low (it k s) = L.testBit k
  | 0, _, _, _, k, hk => absurd hk (Nat.not_lt_zero k)
  | n + 1, L, s, h, k, hk => by
    obtain ⟨e1, e2, e3, e4⟩ := step_nat s
    unfold lowN at h
    rw [← e1, ← e2, ← e3, ← e4] at h
    have h' : (Nat.beq (Nat.mod s.a.toNat 2) (Nat.mod L 2) && lowN n (Nat.div L 2) (Xo.step s).a.toNat (Xo.step s).b.toNat (Xo.step s).c.toNat (Xo.step s).d.toNat) = true := h
    rw [Bool.and_eq_true] at h'
    cases k with
    | zero =>
      have e : s.a.toNat % 2 = L % 2 := Nat.eq_of_beq_eq_true h'.1
      show low s = _
      rw [low_nat, Nat.testBit_zero, e]
    | succ k =>
      rw [Nat.testBit_succ, show it (k + 1) s = it k (Xo.step s) from (it_comm 1 k s)]
      exact lowN_ok n (L / 2) (Xo.step s) h'.2 k (by omega)
theorem bits_eq (k : Nat) (hk : k < 512) : low (it k s1) = bits512.testBit k :=
  lowN_ok 512 bits512 s1 (show lowN 512 bits512 1 0 0 0 = true by decide +kernel) k hk
end Xj
namespace Ms
theorem wrong_congr {f g : Nat → Bool} (c i : Nat) (h : ∀ j, j ≤ i → f j = g j) : ∀ k, wrong f c i k = wrong g c i k
  | 0 => rfl
  | k + 1 => by
    show (if (c.testBit k && f (i - k)) = true then !wrong f c i k else wrong f c i k) = (if (c.testBit k && g (i - k)) = true then !wrong g c i k else wrong g c i k)
    rw [wrong_congr c i h k, h (i - k) (Nat.sub_le _ _)]
theorem run_congr {f g : Nat → Bool} : ∀ m, (∀ j, j < m → f j = g j) → run f m = run g m
  | 0, _ => rfl
  | m + 1, h => by
    show one f m (run f m) = one g m (run g m)
    rw [run_congr m (fun j hj => h j (by omega))]
    unfold one
    rw [wrong_congr _ m (fun j hj => h j (by omega))]
def itr (f : Nat → Bool) : Nat → S → Nat → S
  | _, s, 0 => s
  | i, s, m + 1 => itr f (i + 1) (one f i s) m
theorem itr_succ (f : Nat → Bool) : ∀ (m i : Nat) (s : S), itr f i s (m + 1) = one f (i + m) (itr f i s m)
  | 0, _, _ => rfl
  | m + 1, i, s => by
    show itr f (i + 1) (one f i s) (m + 1) = _
    rw [itr_succ f m (i + 1) (one f i s), show i + 1 + m = i + (m + 1) from by omega]; rfl
theorem run_itr (f : Nat → Bool) : ∀ m, run f m = itr f 0 start m
  | 0 => rfl
  | m + 1 => by rw [itr_succ, Nat.zero_add, ← run_itr f m]; rfl
def tbN (c k : Nat) : Bool := Nat.beq (Nat.mod (Nat.shiftRight c k) 2) 1
theorem tbN_eq (c k : Nat) : tbN c k = c.testBit k := by
  have h := Nat.testBit_zero (c >>> k)
  rw [Nat.testBit_shiftRight, Nat.add_zero] at h
  rw [h]
  show Nat.beq (c >>> k % 2) 1 = _
  have : c >>> k % 2 = 0 ∨ c >>> k % 2 = 1 := by omega
  rcases this with e | e <;> rw [e] <;> rfl
def wrongN (L c i : Nat) : Nat → Bool
  | 0 => false
  | k + 1 => bif and (tbN c k) (tbN L (Nat.sub i k)) then not (wrongN L c i k) else wrongN L c i k
theorem wrongN_eq (L c i : Nat) : ∀ k, wrongN L c i k = wrong L.testBit c i k
  | 0 => rfl
  | k + 1 => by
    show (bif and (tbN c k) (tbN L (Nat.sub i k)) then not (wrongN L c i k) else wrongN L c i k) = (if (c.testBit k && L.testBit (i - k)) = true then !wrong L.testBit c i k else wrong L.testBit c i k)
    rw [wrongN_eq L c i k, tbN_eq, tbN_eq]
    show (bif (c.testBit k && L.testBit (i - k)) then _ else _) = _
    cases (c.testBit k && L.testBit (i - k)) <;> rfl
def goN (L C : Nat) : Nat → Nat → Nat → Nat → Nat → Nat → Bool
  | 0, _, c, _, n, _ => and (Nat.beq c C) (Nat.beq n 256)
  | m + 1, i, c, b, n, ago =>
    bif wrongN L c i (n + 1) then
      (bif Nat.ble (Nat.mul 2 n) i then goN L C m (Nat.succ i) (Nat.xor c (Nat.shiftLeft b ago)) c (Nat.sub (Nat.succ i) n) 1
       else goN L C m (Nat.succ i) (Nat.xor c (Nat.shiftLeft b ago)) b n (Nat.succ ago))
    else goN L C m (Nat.succ i) c b n (Nat.succ ago)
theorem goN_ok (L C : Nat) : ∀ (m i : Nat) (s : S), goN L C m i s.c s.b s.n s.ago = true → (itr L.testBit i s m).c = C ∧ (itr L.testBit i s m).n = 256
  | 0, _, s, h => by
    have h' : (Nat.beq s.c C && Nat.beq s.n 256) = true := h
    rw [Bool.and_eq_true] at h'
    exact ⟨Nat.eq_of_beq_eq_true h'.1, Nat.eq_of_beq_eq_true h'.2⟩
  | m + 1, i, s, h => by
    unfold goN at h
    rw [wrongN_eq] at h
    show (itr L.testBit (i + 1) (one L.testBit i s) m).c = C ∧ (itr L.testBit (i + 1) (one L.testBit i s) m).n = 256
    unfold one
    cases hw : wrong L.testBit s.c i (s.n + 1)
    · rw [hw] at h
      rw [if_neg (by decide)]
      exact goN_ok L C m (i + 1) ⟨s.c, s.b, s.n, s.ago + 1⟩ h
    · rw [hw] at h
      rw [if_pos rfl]
      by_cases h2 : 2 * s.n ≤ i
      · rw [if_pos h2]
        have hb : Nat.ble (Nat.mul 2 s.n) i = true := Nat.ble_eq_true_of_le h2
        rw [hb] at h
        exact goN_ok L C m (i + 1) ⟨s.c ^^^ s.b <<< s.ago, s.c, i + 1 - s.n, 1⟩ h
      · rw [if_neg h2]
        have hb : Nat.ble (Nat.mul 2 s.n) i = false := by
          cases hb : Nat.ble (Nat.mul 2 s.n) i
          · rfl
          · exact absurd (Nat.le_of_ble_eq_true hb) h2
        rw [hb] at h
        exact goN_ok L C m (i + 1) ⟨s.c ^^^ s.b <<< s.ago, s.b, s.n, s.ago + 1⟩ h
end Ms
namespace Xj
theorem found : (Ms.run (fun k => low (Xo.it k s1)) 512).c = leastC ∧ (Ms.run (fun k => low (Xo.it k s1)) 512).n = 256 := by
  rw [Ms.run_congr 512 (g := bits512.testBit) bits_eq, Ms.run_itr]
  exact Ms.goN_ok bits512 leastC 512 0 Ms.start (show Ms.goN bits512 leastC 512 0 1 1 0 1 = true by decide +kernel)
theorem rev_rule : Ms.rev leastC 256 257 = rule := by decide +kernel
theorem rule_found : Ms.rev (Ms.run (fun k => low (Xo.it k s1)) 512).c (Ms.run (fun k => low (Xo.it k s1)) 512).n ((Ms.run (fun k => low (Xo.it k s1)) 512).n + 1) = rule := by
  rw [found.1, found.2]; exact rev_rule
theorem rule_lim : rule < Gf.lim 5 := Gf.lim_of (m := 257) (by decide +kernel) (by decide)
end Xj
end
namespace Xj
theorem deg_act (p : Nat) (s : St) : ∃ D : Nat, Gf.deg p = (D : Int) - 1 ∧ sum p s D = act p s := by
  unfold Gf.deg act
  by_cases h : p = 0
  · subst h; exact ⟨0, rfl, rfl⟩
  · rw [if_neg h]; exact ⟨p.log2 + 1, by omega, rfl⟩
end Xj
open Sx in
theorem xrule_c  (w0 : World) : Calls Tryz.prog 213 #[] w0 fun e w' => ∃ v, e = .returned (v) ∧ w'.ownsRow w0.heap.size 22 1 v (Gf.ws Xj.rule).length (Gf.cells (Gf.ws Xj.rule)) ∧ Below w0.heap.size w0 w' := by
 refine En Tryz.func213 Tryz.ntmps213 fun A F => ?_
 have H := Sx.Own.start w0
 refine Sp fun _ kk => Av F fun A F => ?_
 refine Nl kk (Sp fun _ kk => Zv F (d_build (qs := #[(0, iU 1)]) (v := .agg #[iU 1, iU 0, iU 0, iU 0]) F rfl rfl (by kernel_rfl)) fun A F => ?_)
 refine Zr (mk := fun v => .tuple #[v, iI 0]) F (d_callR (vs := [.agg #[iU 1, iU 0, iU 0, iU 0], iI 512]) (mk := fun v => .tuple #[v, iI 0]) if_218 F H rfl rfl (xbits_c Xj.s1 512 (by omega) _)) fun v1 A w F (H : Sx.Own w0 _ [] [⟨true, v1, 4, 1, 512, (Xj.bools Xj.s1 512)⟩]) => ?_
 iterate 5 (refine Av F ?_; intro A F)
 refine Nl kk (Sp fun _ kk => Av F fun A F => ?_)
 refine Zr (mk := fun v => .tuple #[v, bT]) F (d_callR (vs := [v1]) (mk := fun v => .tuple #[v, bT]) if_219 F H rfl rfl (msleast_c (fun k => Xj.low (Xo.it k Xj.s1)) 512 (by rw [Xj.found.2]; decide) _ _ (Ms.Rd.row (H.row 0 _ rfl rfl) (by decide)))) fun v2 A w F (H : Sx.Own w0 _ [] [⟨true, v2, 22, 1, (Gf.ws (Ms.rev (Ms.run (fun k => Xj.low (Xo.it k Xj.s1)) 512).c (Ms.run (fun k => Xj.low (Xo.it k Xj.s1)) 512).n ((Ms.run (fun k => Xj.low (Xo.it k Xj.s1)) 512).n + 1))).length, (Gf.cells (Gf.ws (Ms.rev (Ms.run (fun k => Xj.low (Xo.it k Xj.s1)) 512).c (Ms.run (fun k => Xj.low (Xo.it k Xj.s1)) 512).n ((Ms.run (fun k => Xj.low (Xo.it k Xj.s1)) 512).n + 1))))⟩, ⟨true, v1, 4, 1, 512, (Xj.bools Xj.s1 512)⟩]) => ?_
 iterate 5 (refine Av F ?_; intro A F)
 refine Nl kk (Sp fun _ kk => ?_)
 iterate 2 (refine Av F ?_; intro A F)
 refine Nl kk (Wr (ret1 F Tryz.results213 (res_tmp F rfl) ?_))
 rw [Xj.rule_found] at H
 exact ⟨_, rfl, H.row 0 _ rfl rfl, H.below⟩
open Sx in
theorem xpoly_c (x : BitVec 128) (w0 : World) : Calls Tryz.prog 207 #[.agg #[uH x, uL x]] w0 fun e w' => ∃ v, e = .returned (v) ∧ w'.ownsRow w0.heap.size 22 1 v (Gf.ws (Gf.pw (1 <<< 1) Xj.rule x)).length (Gf.cells (Gf.ws (Gf.pw (1 <<< 1) Xj.rule x))) ∧ Below w0.heap.size w0 w' := by
 have hlr := Gf.lim_len Xj.rule_lim
 refine En Tryz.func207 Tryz.ntmps207 fun A F => ?_
 have H := Sx.Own.start w0
 refine Sp fun _ kk => Zb F (d_box F H rfl rfl [uH x, uL x] rfl) fun g1 A w F H => ?_
 refine Av F fun A F => ?_
 refine Nl kk (Sx.seq fun K2 hK2 => ?_)
 have F := F.tq [(0, .agg #[uH x, uL x]), (1, pT g1 0), (2, nS)] rfl
 refine Dn F [some (.agg #[uH x, uL x]), none, none, none, none, some (iI 0), none, some (iI 0)] (fun L A w => ∃ v1 : Value, ∃ v2 : Value, (L 1 = true → A.eval (.tmp 7) = v1) ∧ (L 2 = true → A.eval (.tmp 8) = .tuple #[v2, iI 0]) ∧ (L 3 = true → A.eval (.tmp 5) = .tuple #[v2, iI 0]) ∧ (L 4 = true → A.eval (.tmp 9) = v2) ∧ (L 6 = true → A.eval (.tmp 3) = v2) ∧ Sx.Own w0 w [(true, g1, [uH x, uL x])] [⟨L 1, v1, 22, 1, (Gf.ws Xj.rule).length, (Gf.cells (Gf.ws Xj.rule))⟩, ⟨L 2, v2, 22, 1, (Gf.ws (Gf.pw (1 <<< 1) Xj.rule x)).length, (Gf.cells (Gf.ws (Gf.pw (1 <<< 1) Xj.rule x)))⟩]) ⟨undef, undef, (fun h => by cases h), (fun h => by cases h), (fun h => by cases h), (fun h => by cases h), (fun h => by cases h), H.drew.pad [] rfl [⟨false, undef, 22, 1, (Gf.ws Xj.rule).length, (Gf.cells (Gf.ws Xj.rule))⟩, ⟨false, undef, 22, 1, (Gf.ws (Gf.pw (1 <<< 1) Xj.rule x)).length, (Gf.cells (Gf.ws (Gf.pw (1 <<< 1) Xj.rule x)))⟩] rfl⟩ ?_ ?_
 ·refine ⟨?_, ?_, ?_, ?_, ?_, ?_, ?_, ?_, trivial⟩
  ·intro L A w up hun hd F ⟨v1, v2, p1, p2, p3, p4, p6, H⟩
   have f2 : L 2 = false := up 2 0 rfl hun
   have f3 : L 3 = false := up 3 2 rfl f2
   have f4 : L 4 = false := up 4 3 rfl f3
   have f6 : L 6 = false := up 6 0 rfl hun
   have Hj := H; rw [f2] at Hj
   refine step_on rfl (Lr 0 [uH x, uL x] rw_26 F Hj) ?_
   rintro xv w' ⟨hx, rfl⟩
   exact ⟨Cs hx, ⟨v1, v2, Pk p1, Nf f2, Nf f3, Nf f4, Nf f6, H⟩⟩
  ·intro L A w up hun hd F ⟨v1, v2, p1, p2, p3, p4, p6, H⟩
   have f1 : L 1 = false := hun
   have f2 : L 2 = false := up 2 1 rfl hun
   have f3 : L 3 = false := up 3 2 rfl f2
   have f4 : L 4 = false := up 4 3 rfl f3
   have f6 : L 6 = false := up 6 1 rfl hun
   rw [f1, f2] at H
   refine step_on rfl (d_callR_at 0 (vs := []) (mk := fun v => v) if_213 F H rfl rfl (xrule_c _)) ?_
   rintro xv w' ⟨v', hx, H⟩
   exact ⟨Cn, ⟨v', v2, (fun _ => (Sx.put_same F (by decide) _).trans hx), Nf f2, Nf f3, Nf f4, Nf f6, (by show Sx.Own _ _ _ _; rw [show Inv.add L 1 2 = false from f2]; exact H)⟩⟩
  ·intro L A w up hun hd F ⟨v1, v2, p1, p2, p3, p4, p6, H⟩
   have t1 : L 1 = true := hd 1 rfl
   have f2 : L 2 = false := hun
   have f3 : L 3 = false := up 3 2 rfl hun
   have f4 : L 4 = false := up 4 3 rfl f3
   have f6 : L 6 = false := up 6 2 rfl hun
   rw [t1, f2] at H
   have F := Fr.add F (p1 t1)
   refine step_on rfl (d_callR_at 1 (vs := [.agg #[uH x, uL x], v1]) (mk := fun v => .tuple #[v, iI 0]) if_212 F H rfl rfl (gpowx_c _ (Gf.ws Xj.rule) Xj.rule (Gf.val_ws _) x (by omega) (Xj.rule_kills.1) _ (Gf.Rd.row (H.row 0 _ rfl rfl) rfl rfl (by omega)))) ?_
   rintro xv w' ⟨v', hx, H⟩
   exact ⟨Cn, ⟨v1, v', Pk p1, (fun _ => (Sx.put_same F (by decide) _).trans hx), Nf f3, Nf f4, Nf f6, (by show Sx.Own _ _ _ _; rw [show Inv.add L 2 1 = true from t1]; exact H)⟩⟩
  ·intro L A w up hun hd F ⟨v1, v2, p1, p2, p3, p4, p6, H⟩
   have t1 : L 1 = true := by
    cases hb : L 1 with
    | true => rfl
    | false =>
     have hb2 := up 2 1 rfl hb
     rw [hd 2 rfl] at hb2; cases hb2
   have t2 : L 2 = true := hd 2 rfl
   have f3 : L 3 = false := hun
   have f4 : L 4 = false := up 4 3 rfl hun
   have f6 : L 6 = false := up 6 3 rfl hun
   have Hj := H; rw [t1, t2] at Hj
   have F := Fr.add F (p1 t1)
   have F := Fr.add F (p2 t2)
   refine step_on rfl (d_move F (Or.inl rfl) rfl) ?_
   rintro xv w' ⟨hx, rfl⟩
   exact ⟨Cn, ⟨v1, v2, Pk p1, Pk p2, (fun _ => (Sx.put_same F (by decide) _).trans hx), Nf f4, Nf f6, H⟩⟩
  ·intro L A w up hun hd F ⟨v1, v2, p1, p2, p3, p4, p6, H⟩
   have t1 : L 1 = true := by
    cases hb : L 1 with
    | true => rfl
    | false =>
     have hb2 := up 2 1 rfl hb
     have hb3 := up 3 2 rfl hb2
     rw [hd 3 rfl] at hb3; cases hb3
   have t2 : L 2 = true := by
    cases hb : L 2 with
    | true => rfl
    | false =>
     have hb3 := up 3 2 rfl hb
     rw [hd 3 rfl] at hb3; cases hb3
   have t3 : L 3 = true := hd 3 rfl
   have f4 : L 4 = false := hun
   have f6 : L 6 = false := up 6 4 rfl hun
   have Hj := H; rw [t1, t2] at Hj
   have F := Fr.add F (p1 t1)
   have F := Fr.add F (p2 t2)
   have F := Fr.add F (p3 t3)
   refine step_on rfl (d_extract (v := v2) F rfl rfl rfl) ?_
   rintro xv w' ⟨hx, rfl⟩
   exact ⟨Cn, ⟨v1, v2, Pk p1, Pk p2, Pk p3, (fun _ => (Sx.put_same F (by decide) _).trans hx), Nf f6, H⟩⟩
  ·intro L A w up hun hd F ⟨v1, v2, p1, p2, p3, p4, p6, H⟩
   have t1 : L 1 = true := by
    cases hb : L 1 with
    | true => rfl
    | false =>
     have hb2 := up 2 1 rfl hb
     have hb3 := up 3 2 rfl hb2
     rw [hd 3 rfl] at hb3; cases hb3
   have t2 : L 2 = true := by
    cases hb : L 2 with
    | true => rfl
    | false =>
     have hb3 := up 3 2 rfl hb
     rw [hd 3 rfl] at hb3; cases hb3
   have t3 : L 3 = true := hd 3 rfl
   have Hj := H; rw [t1, t2] at Hj
   have F := Fr.add F (p1 t1)
   have F := Fr.add F (p2 t2)
   have F := Fr.add F (p3 t3)
   refine step_on rfl (d_extract (v := iI 0) F rfl rfl rfl) ?_
   rintro xv w' ⟨hx, rfl⟩
   exact ⟨Cs hx, ⟨v1, v2, Pk p1, Pk p2, Pk p3, Pk p4, Pk p6, H⟩⟩
  ·intro L A w up hun hd F ⟨v1, v2, p1, p2, p3, p4, p6, H⟩
   have t1 : L 1 = true := hd 1 rfl
   have t2 : L 2 = true := hd 2 rfl
   have t3 : L 3 = true := hd 3 rfl
   have t4 : L 4 = true := hd 4 rfl
   have f6 : L 6 = false := hun
   have Hj := H; rw [t1, t2] at Hj
   have F := Fr.add F (p1 t1)
   have F := Fr.add F (p2 t2)
   have F := Fr.add F (p3 t3)
   have F := Fr.add F (p4 t4)
   refine step_on rfl (d_move F (Or.inr rfl) rfl) ?_
   rintro xv w' ⟨hx, rfl⟩
   exact ⟨Cn, ⟨v1, v2, Pk p1, Pk p2, Pk p3, Pk p4, (fun _ => (Sx.put_same F (by decide) _).trans hx), H⟩⟩
  ·intro L A w up hun hd F ⟨v1, v2, p1, p2, p3, p4, p6, H⟩
   have t1 : L 1 = true := hd 1 rfl
   have t2 : L 2 = true := hd 2 rfl
   have t3 : L 3 = true := hd 3 rfl
   have t4 : L 4 = true := hd 4 rfl
   have t6 : L 6 = true := hd 6 rfl
   have Hj := H; rw [t1, t2] at Hj
   have F := Fr.add F (p1 t1)
   have F := Fr.add F (p2 t2)
   have F := Fr.add F (p3 t3)
   have F := Fr.add F (p4 t4)
   have F := Fr.add F (p6 t6)
   refine step_on rfl (d_move F (Or.inr rfl) rfl) ?_
   rintro xv w' ⟨hx, rfl⟩
   exact ⟨Cs hx, ⟨v1, v2, Pk p1, Pk p2, Pk p3, Pk p4, Pk p6, H⟩⟩
 ·intro L A w hL F ⟨v1, v2, p1, p2, p3, p4, p6, H⟩
  have t1 : L 1 = true := hL 1 rfl
  have t2 : L 2 = true := hL 2 rfl
  have t3 : L 3 = true := hL 3 rfl
  have t4 : L 4 = true := hL 4 rfl
  have t6 : L 6 = true := hL 6 rfl
  rw [t1, t2] at H
  have F := Fr.add F (p1 t1)
  have F := Fr.add F (p2 t2)
  have F := Fr.add F (p3 t3)
  have F := Fr.add F (p4 t4)
  have F := Fr.add F (p6 t6)
  have F := F.tq [(2, nS), (3, v2)] rfl
  refine hK2 _ _ (Sp fun _ kk => ?_)
  iterate 2 (refine Av F ?_; intro A F)
  refine Nl kk (Wr (ret1 F Tryz.results207 (res_tmp F rfl) ?_))
  exact ⟨_, rfl, H.row 1 _ rfl rfl, H.below⟩
open Sx in
theorem xat_1 (la : List (BitVec 64)) (ada : Option Addr) (capa : Nat) (s : St) (hs : la.length ≤ 100) (w0 : World) (hra : Gf.Rd w0 (.slice ada la.length capa) la) : Calls Tryz.prog 206 #[.slice ada la.length capa, (L8 s)] w0 fun e w' => e = .returned (.agg #[iU ((Xj.act (Gf.val la) s).a.toNat), iU ((Xj.act (Gf.val la) s).b.toNat), iU ((Xj.act (Gf.val la) s).c.toNat), iU ((Xj.act (Gf.val la) s).d.toNat)]) ∧ Below w0.heap.size w0 w' := by
 have fewa := hra.few
 have hca := hra.at
 refine En Tryz.func206 Tryz.ntmps206 fun A F => ?_
 have H := Sx.Own.start w0
 refine Sp fun _ kk => Zb F (d_box F H rfl rfl [uN s.a, uN s.b, uN s.c, uN s.d] rfl) fun g1 A w F H => ?_
 refine Zb F (d_alloc H rfl [iU 0, iU 0, iU 0, iU 0] zero_24) fun g2 A w F H => ?_
 refine Nl kk (wp_scope_straight (Sp fun _ kk => Zb F (d_alloc H rfl [iU 0, iU 0, iU 0, iU 0] zero_24) fun g3 A w F H => ?_))
 refine Nl kk (Sp fun _ kk => Av F fun A F => ?_)
 refine Zw F (Dc if_209 F H (gdeg_c _ la (Gf.val la) rfl _ ((hra).below H.below))) fun A w F H => ?_
 refine Av F fun A F => ?_
 refine Sx.nil ?_
 obtain ⟨D, hD, hact⟩ := Xj.deg_act (Gf.val la) s
 rw [hD] at F
 have hdl := Gf.lim_deg (Gf.len_lim (n := 100) hs)
 refine kk _ _ ?_
 refine Sx.seq fun K4 hK4 => wp_label (hK4 _ _ (Sx.seq fun K5 hK5 => Sp fun _ kk => Av F fun A F => ?_))
 refine Nl kk (wp_block (loop (fun q A w => ∃ (k : Nat), q = D - k ∧ k ≤ D ∧ Fr 25 A [(0, .slice ada la.length capa), (3, pT g1 0), (4, pT g2 0), (5, pT g3 0), (6, iI ((D : Int) - 1)), (7, iI k)] ∧ Sx.Own w0 w [(true, g1, (L12 k s)), (true, g3, [iU ((Xj.sum (Gf.val la) s k).a.toNat), iU ((Xj.sum (Gf.val la) s k).b.toNat), iU ((Xj.sum (Gf.val la) s k).c.toNat), iU ((Xj.sum (Gf.val la) s k).d.toNat)]), (true, g2, [uN Xo.zero.a, uN Xo.zero.b, uN Xo.zero.c, uN Xo.zero.d])] []) (D - 0) ⟨0, rfl, Nat.zero_le _, F.to ⟨rfl, rfl, rfl, rfl, rfl, rfl, trivial⟩, H.to' [2, 0, 1] [] (by decide) (by decide) rfl rfl⟩ ?_))
 rintro q A w ⟨k, rfl, hi_k, F, H⟩
 by_cases hlt_k : k < D
 ·skip
  refine Sx.seq fun K7 hK7 => wp_block (Sx.seq fun K8 hK8 => Sp fun _ kk => ?_)
  iterate 2 (refine Av F ?_; intro A F)
  refine Zv F (Bn bF F rfl rfl rfl (i_gt (decide_eq_false (by omega)))) fun A F => ?_
  refine Nl kk (condF F rfl (wp_skip (hK8 _ _ ?_)))
  cases hb : Nat.testBit (Gf.val la) k
  ·have hv : Xj.sum (Gf.val la) s (k + 1) = Xj.sum (Gf.val la) s k := if_neg (by rw [hb]; decide)
   refine Sx.seq fun K10 hK10 => Sp fun _ kk => ?_
   iterate 2 (refine Av F ?_; intro A F)
   refine Zw F (Dc if_210 F H (gbit_c k _ la (Gf.val la) rfl _ (by omega) ((hra).below H.below))) fun A w F H => ?_
   refine Zv F (Bn bF F rfl rfl rfl (i_eq (by rw [hb]; rfl))) fun A F => ?_
   refine Nl kk (condF F rfl (wp_skip (hK10 _ _ (Sx.plain ?_))))
   refine Av F fun A F => ?_
   refine Zw F (Dc if_204 F H (xstep_c (Xo.it k s) _)) fun A w F H => ?_
   refine Zs 0 (L13 k s) sz_24 F H fun A w F H => ?_
   refine Sx.nil (hK7 _ _ (Sx.plain ?_))
   refine Av F fun A F => ?_
   refine Zv F (Bn (iI (k + 1 : Nat)) F rfl rfl rfl (i_addN rfl (in_i64 _ (by omega)))) fun A F => ?_
   refine Av F fun A F => ?_
   refine Sx.nil ?_
   try dsimp only [Exit.then, Exit.noGoto]
   exact ⟨D - (k + 1), by omega, k + 1, rfl, by omega, F.to ⟨rfl, rfl, rfl, rfl, rfl, rfl, trivial⟩, by rw [hv]; exact H⟩
  ·have hv : Xj.sum (Gf.val la) s (k + 1) = Xo.add (Xj.sum (Gf.val la) s k) (Xo.it k s) := if_pos hb
   refine Sx.seq fun K12 hK12 => Sp fun _ kk => ?_
   iterate 2 (refine Av F ?_; intro A F)
   refine Zw F (Dc if_210 F H (gbit_c k _ la (Gf.val la) rfl _ (by omega) ((hra).below H.below))) fun A w F H => ?_
   refine Zv F (Bn bT F rfl rfl rfl (i_eq (by rw [hb]; rfl))) fun A F => ?_
   refine Nl kk (condT F rfl (Sx.plain ?_))
   iterate 2 (refine Av F ?_; intro A F)
   refine Zw F (Dc if_211 F H (xadd_c (Xj.sum (Gf.val la) s k) (Xo.it k s) _)) fun A w F H => ?_
   refine Zs 1 [iU ((Xo.add (Xj.sum (Gf.val la) s k) (Xo.it k s)).a.toNat), iU ((Xo.add (Xj.sum (Gf.val la) s k) (Xo.it k s)).b.toNat), iU ((Xo.add (Xj.sum (Gf.val la) s k) (Xo.it k s)).c.toNat), iU ((Xo.add (Xj.sum (Gf.val la) s k) (Xo.it k s)).d.toNat)] sz_24 F H fun A w F H => ?_
   refine Sx.nil (hK12 _ _ (Sx.plain ?_))
   refine Av F fun A F => ?_
   refine Zw F (Dc if_204 F H (xstep_c (Xo.it k s) _)) fun A w F H => ?_
   refine Zs 0 (L13 k s) sz_24 F H fun A w F H => ?_
   refine Sx.nil (hK7 _ _ (Sx.plain ?_))
   refine Av F fun A F => ?_
   refine Zv F (Bn (iI (k + 1 : Nat)) F rfl rfl rfl (i_addN rfl (in_i64 _ (by omega)))) fun A F => ?_
   refine Av F fun A F => ?_
   refine Sx.nil ?_
   try dsimp only [Exit.then, Exit.noGoto]
   exact ⟨D - (k + 1), by omega, k + 1, rfl, by omega, F.to ⟨rfl, rfl, rfl, rfl, rfl, rfl, trivial⟩, by rw [hv]; exact H⟩
 ·have hie_k : D = k := by omega
  subst hie_k
  refine Sx.seq fun K14 hK14 => wp_block (Sx.seq fun K15 hK15 => Sp fun _ kk => ?_)
  iterate 2 (refine Av F ?_; intro A F)
  refine Zv F (Bn bT F rfl rfl rfl (i_gt (decide_eq_true (by omega)))) fun A F => ?_
  refine Nl kk (condT F rfl (wp_exit ?_))
  try dsimp only [Exit.then, Exit.jump, Exit.noGoto]
  refine exit_past (by decide) ?_
  try dsimp only [Exit.then, Exit.jump, Exit.noGoto]
  refine exit_here (hK5 _ _ (Sp fun _ kk => Av F fun A F => ?_))
  refine Zs 2 [iU ((Xj.sum (Gf.val la) s D).a.toNat), iU ((Xj.sum (Gf.val la) s D).b.toNat), iU ((Xj.sum (Gf.val la) s D).c.toNat), iU ((Xj.sum (Gf.val la) s D).d.toNat)] sz_24 F H fun A w F H => ?_
  refine Nl kk (Wr (ret1 F Tryz.results206 (res_row (i := 2) (xs := [iU ((Xj.sum (Gf.val la) s D).a.toNat), iU ((Xj.sum (Gf.val la) s D).b.toNat), iU ((Xj.sum (Gf.val la) s D).c.toNat), iU ((Xj.sum (Gf.val la) s D).d.toNat)]) rw_24 F H rfl rfl rfl rfl) ?_))
  rw [hact]
  exact ⟨rfl, H.below⟩
theorem xat_c (s : St) (v : Value) (l : List (BitVec 64)) (p : Nat) (hp : Gf.val l = p) (hs : l.length ≤ 100) (w : World) (h : Gf.Rd w v l) : Calls Tryz.prog 206 #[v, .agg #[.int .u64 s.a.toNat, .int .u64 s.b.toNat, .int .u64 s.c.toNat, .int .u64 s.d.toNat]] w fun e w' => e = .returned (.agg #[.int .u64 ((Xj.act p s).a.toNat), .int .u64 ((Xj.act p s).b.toNat), .int .u64 ((Xj.act p s).c.toNat), .int .u64 ((Xj.act p s).d.toNat)]) ∧ Below w.heap.size w w' := by
  obtain ⟨ada, capa, rfl⟩ := h.form
  subst hp
  exact xat_1 l ada capa s hs w h
abbrev L14 (x0 : BitVec 128) (x1 : St) : Value := .agg #[iU ((Xo.it x0.toNat x1).a.toNat), iU ((Xo.it x0.toNat x1).b.toNat), iU ((Xo.it x0.toNat x1).c.toNat), iU ((Xo.it x0.toNat x1).d.toNat)]
abbrev L15 (x0 : BitVec 128) (x1 : St) : List Value := [iU ((Xj.act (Gf.pw (1 <<< 1) Xj.rule x0) x1).a.toNat), iU ((Xj.act (Gf.pw (1 <<< 1) Xj.rule x0) x1).b.toNat), iU ((Xj.act (Gf.pw (1 <<< 1) Xj.rule x0) x1).c.toNat), iU ((Xj.act (Gf.pw (1 <<< 1) Xj.rule x0) x1).d.toNat)]
open Sx in
theorem xjump_c (s : St) (x : BitVec 128) (hr : Xj.right s = true) (w0 : World) : Calls Tryz.prog 202 #[(L8 s), .agg #[uH x, uL x]] w0 fun e w' => e = .returned (.tuple #[(L14 x s), iI 0]) ∧ Below w0.heap.size w0 w' := by
 have hlp : (Gf.ws (Gf.pw (1 <<< 1) Xj.rule x)).length ≤ 5 := Gf.lim_len (Gf.pws_lim Xj.rule_kills.1 Xj.rule_lim _ _)
 refine En Tryz.func202 Tryz.ntmps202 fun A F => ?_
 have H := Sx.Own.start w0
 refine Sp fun _ kk => Zb F (d_box F H rfl rfl [uN s.a, uN s.b, uN s.c, uN s.d] rfl) fun g1 A w F H => ?_
 refine Zb F (d_box F H rfl rfl [uH x, uL x] rfl) fun g2 A w F H => ?_
 refine Zb F (d_alloc H rfl [iU 0, iU 0, iU 0, iU 0] zero_24) fun g3 A w F H => ?_
 refine Av F fun A F => ?_
 refine Nl kk (Sx.seq fun K2 hK2 => Sp fun _ kk => Av F fun A F => ?_)
 refine Zw F (Dc (v := bT) if_203 F H (Calls.val (xright_c s _) rfl (by rw [show Xj.right s = true from hr]))) fun A w F H => ?_
 refine Zv F (d_un (v := bF) F rfl rfl rfl) fun A F => ?_
 refine Nl kk (condF F rfl (wp_skip (hK2 _ _ (Sx.seq fun K4 hK4 => ?_))))
 have F := F.tq [(0, (L8 s)), (1, .agg #[uH x, uL x]), (2, pT g1 0), (3, pT g2 0), (4, pT g3 0), (6, (L8 s)), (7, bT), (8, bF)] rfl
 refine Dn F [some (.agg #[uH x, uL x]), none, some (L8 s), some (.agg #[iU ((Xj.act (Gf.pw (1 <<< 1) Xj.rule x) s).a.toNat), iU ((Xj.act (Gf.pw (1 <<< 1) Xj.rule x) s).b.toNat), iU ((Xj.act (Gf.pw (1 <<< 1) Xj.rule x) s).c.toNat), iU ((Xj.act (Gf.pw (1 <<< 1) Xj.rule x) s).d.toNat)]), none, some (iI 0)] (fun L A w => ∃ v1 : Value, (L 1 = true → A.eval (.tmp 11) = v1) ∧ Sx.Own w0 w [(true, g3, (cond (L 4) (L15 x s) [iU 0, iU 0, iU 0, iU 0])), (true, g2, [uH x, uL x]), (true, g1, [uN s.a, uN s.b, uN s.c, uN s.d])] [⟨L 1, v1, 22, 1, (Gf.ws (Gf.pw (1 <<< 1) Xj.rule x)).length, (Gf.cells (Gf.ws (Gf.pw (1 <<< 1) Xj.rule x)))⟩]) ⟨undef, (fun h => by cases h), H.drew.pad [] rfl [⟨false, undef, 22, 1, (Gf.ws (Gf.pw (1 <<< 1) Xj.rule x)).length, (Gf.cells (Gf.ws (Gf.pw (1 <<< 1) Xj.rule x)))⟩] rfl⟩ ?_ ?_
 ·refine ⟨?_, ?_, ?_, ?_, ?_, ?_, trivial⟩
  ·intro L A w up hun hd F ⟨v1, p1, H⟩
   have f1 : L 1 = false := up 1 0 rfl hun
   have f4 : L 4 = false := up 4 0 rfl hun
   have Hj := H; rw [f1, f4] at Hj
   refine step_on rfl (Lr 1 [uH x, uL x] rw_26 F Hj) ?_
   rintro xv w' ⟨hx, rfl⟩
   exact ⟨Cs hx, ⟨v1, Nf f1, H⟩⟩
  ·intro L A w up hun hd F ⟨v1, p1, H⟩
   have f1 : L 1 = false := hun
   have f4 : L 4 = false := up 4 1 rfl hun
   rw [f1, f4] at H
   refine step_on rfl (d_callR_at 0 (vs := [.agg #[uH x, uL x]]) (mk := fun v => v) if_207 F H rfl rfl (xpoly_c x _)) ?_
   rintro xv w' ⟨v', hx, H⟩
   exact ⟨Cn, ⟨v', (fun _ => (Sx.put_same F (by decide) _).trans hx), (by show Sx.Own _ _ _ _; rw [show Inv.add L 1 4 = false from f4]; exact H)⟩⟩
  ·exact SV (fun _ _ _ F ⟨v1, p1, H⟩ => Lr 2 [uN s.a, uN s.b, uN s.c, uN s.d] rw_24 F H) (fun _ _ _ _ ⟨v1, p1, H⟩ => ⟨v1, Pk p1, H⟩)
  ·intro L A w up hun hd F ⟨v1, p1, H⟩
   have t1 : L 1 = true := hd 1 rfl
   have f4 : L 4 = false := up 4 3 rfl hun
   rw [t1, f4] at H
   have F := Fr.add F (p1 t1)
   refine step_on rfl (Dc if_206 F H (xat_c s _ (Gf.ws (Gf.pw (1 <<< 1) Xj.rule x)) (Gf.pw (1 <<< 1) Xj.rule x) (Gf.val_ws _) (by omega) _ (Gf.Rd.row (H.row 0 _ rfl rfl) rfl rfl (by omega)))) ?_
   rintro xv w' ⟨hx, H⟩
   exact ⟨Cs hx, ⟨v1, Pk p1, (by show Sx.Own _ _ _ _; rw [show Inv.add L 3 1 = true from t1, show Inv.add L 3 4 = false from f4]; exact H)⟩⟩
  ·intro L A w up hun hd F ⟨v1, p1, H⟩
   have t1 : L 1 = true := hd 1 rfl
   have f4 : L 4 = false := hun
   rw [t1, f4] at H
   have F := Fr.add F (p1 t1)
   refine step_on rfl (d_store (i := 0) (xs := (L15 x s)) (us := (L15 x s)) sz_24 F H rfl rfl rfl rfl rfl rfl rfl (Nat.le_of_ble_eq_true rfl) rfl) ?_
   intro xv w' H
   exact ⟨Cn, ⟨v1, p1, (by show Sx.Own _ _ _ _; rw [show Inv.add L 4 1 = true from t1]; exact H)⟩⟩
  ·intro L A w up hun hd F ⟨v1, p1, H⟩
   have t1 : L 1 = true := hd 1 rfl
   have t4 : L 4 = true := hd 4 rfl
   have Hj := H; rw [t1, t4] at Hj
   have F := Fr.add F (p1 t1)
   refine step_on rfl (d_move F (Or.inr rfl) rfl) ?_
   rintro xv w' ⟨hx, rfl⟩
   exact ⟨Cs hx, ⟨v1, Pk p1, H⟩⟩
 ·intro L A w hL F ⟨v1, p1, H⟩
  have t1 : L 1 = true := hL 1 rfl
  have t4 : L 4 = true := hL 4 rfl
  rw [t1, t4] at H
  have F := Fr.add F (p1 t1)
  have F := F.tq [(4, pT g3 0), (5, iI 0)] rfl
  refine hK4 _ _ (Wr (ret2 F Tryz.results202 (res_row (i := 0) (xs := [iU ((Xj.act (Gf.pw (1 <<< 1) Xj.rule x) s).a.toNat), iU ((Xj.act (Gf.pw (1 <<< 1) Xj.rule x) s).b.toNat), iU ((Xj.act (Gf.pw (1 <<< 1) Xj.rule x) s).c.toNat), iU ((Xj.act (Gf.pw (1 <<< 1) Xj.rule x) s).d.toNat)]) rw_24 F H rfl rfl rfl rfl) (res_tmp F rfl) ?_))
  rw [Xj.act_pw Xj.rule_kills]
  exact ⟨rfl, H.below⟩
section
namespace Mt
def row (s : St) : List Value := [.int .u64 (s.a.toNat : Nat), .int .u64 (s.b.toNat : Nat), .int .u64 (s.c.toNat : Nat), .int .u64 (s.d.toNat : Nat)]
def fl (f : Nat → St) : Nat → Nat → List Value
  | _, 0 => []
  | i, n + 1 => row (f i) ++ fl f (i + 1) n
def cells (f : Nat → St) : List Value := fl f 0 256
def upd (f : Nat → St) (k : Nat) (s : St) : Nat → St := fun j => if j = k then s else f j
theorem fl_len (f : Nat → St) : ∀ n i, (fl f i n).length = n * 4
  | 0, _ => rfl
  | n + 1, i => by show (row (f i) ++ fl f (i + 1) n).length = _; rw [List.length_append, fl_len f n]; show 4 + n * 4 = _; omega
theorem len (f : Nat → St) : (cells f).length = 1024 := fl_len f 256 0
theorem fl_ones (f : Nat → St) : ∀ n i, Sx.ones (fl f i n) = true
  | 0, _ => rfl
  | n + 1, i => fl_ones f n (i + 1)
theorem ones (f : Nat → St) : Sx.ones (cells f) = true := fl_ones f 256 0
theorem fl_congr {f g : Nat → St} : ∀ n i, (∀ j, i ≤ j → j < i + n → f j = g j) → fl f i n = fl g i n
  | 0, _, _ => rfl
  | n + 1, i, h => by
    show row (f i) ++ fl f (i + 1) n = row (g i) ++ fl g (i + 1) n
    rw [h i (Nat.le_refl _) (by omega), fl_congr n (i + 1) (fun j h1 h2 => h j (by omega) (by omega))]
theorem congr {f g : Nat → St} (h : ∀ j, j < 256 → f j = g j) : cells f = cells g := fl_congr 256 0 fun j _ h2 => h j (by omega)
theorem fl_drop (f : Nat → St) : ∀ k n i, k ≤ n → (fl f i n).drop (k * 4) = fl f (i + k) (n - k)
  | 0, _, _, _ => by rw [Nat.zero_mul, List.drop_zero]; rfl
  | k + 1, 0, _, h => by omega
  | k + 1, n + 1, i, h => by
    show (row (f i) ++ fl f (i + 1) n).drop ((k + 1) * 4) = _
    rw [show (k + 1) * 4 = (row (f i)).length + k * 4 from by show _ = 4 + k * 4; omega, List.drop_length_add_append, fl_drop f k n (i + 1) (by omega), show i + 1 + k = i + (k + 1) from by omega, show n + 1 - (k + 1) = n - k from by omega]
theorem at_ (f : Nat → St) {k : Nat} (h : k < 256) : ((cells f).drop (k * 4)).take 4 = row (f k) := by
  unfold cells
  rw [fl_drop f k 256 0 (by omega), Nat.zero_add, show 256 - k = (255 - k) + 1 from by omega]
  show (row (f k) ++ _).take 4 = _
  exact List.take_left' (by rfl)
theorem all (f : Nat → St) : ((cells f).drop 0).take 1024 = cells f := by rw [List.drop_zero]; exact List.take_of_length_le (by rw [len]; exact Nat.le_refl _)
theorem fl_splice (f : Nat → St) (s : St) : ∀ k n i, k < n → Sx.splice (fl f i n) (k * 4) (row s) = fl (upd f (i + k) s) i n
  | _, 0, _, h => by omega
  | 0, n + 1, i, _ => by
    show Sx.splice (row (f i) ++ fl f (i + 1) n) 0 (row s) = row (upd f i s i) ++ fl (upd f i s) (i + 1) n
    unfold Sx.splice
    rw [List.take_zero, List.nil_append, show 0 + (row s).length = (row (f i)).length from rfl, List.drop_left, show upd f i s i = s from if_pos rfl]
    congr 1
    exact fl_congr n (i + 1) fun j h1 h2 => (if_neg (by omega)).symm
  | k + 1, n + 1, i, h => by
    have ih := fl_splice f s k n (i + 1) (by omega)
    show Sx.splice (row (f i) ++ fl f (i + 1) n) ((k + 1) * 4) (row s) = row (upd f (i + (k + 1)) s i) ++ fl (upd f (i + (k + 1)) s) (i + 1) n
    rw [show i + (k + 1) = i + 1 + k from by omega, ← ih, show upd f (i + 1 + k) s i = f i from if_neg (by omega)]
    unfold Sx.splice
    rw [show (k + 1) * 4 = (row (f i)).length + k * 4 from by show _ = 4 + k * 4; omega, List.take_length_add_append, show (row (f i)).length + k * 4 + (row s).length = (row (f i)).length + (k * 4 + (row s).length) from by omega, List.drop_length_add_append, List.append_assoc]
theorem splice (f : Nat → St) (s : St) {k : Nat} (h : k < 256) : Sx.splice (cells f) (k * 4) (row s) = cells (upd f k s) := by
  have := fl_splice f s k 256 0 h
  rw [Nat.zero_add] at this
  exact this
def fill (f : Nat → St) (k : Nat) : Nat → St := fun j => if j < k then f j else Xo.zero
theorem fill_zero (f : Nat → St) : fill f 0 = fun _ => Xo.zero := by funext j; exact if_neg (Nat.not_lt_zero j)
theorem fill_all (f : Nat → St) : cells (fill f 256) = cells f := congr fun j h => if_pos h
def At (w : World) (b : Nat) (f : Nat → St) : Prop := ∀ j u, (cells f)[j]? = some u → w.cell? ⟨b, j, none⟩ = some u
theorem At.row {w : World} {b : Nat} {f : Nat → St} (h : At w b f) {i : Nat} (hi : i < 256) : w.cell? ⟨b, i * 4, none⟩ = some (.int .u64 ((f i).a.toNat : Nat)) ∧ w.cell? ⟨b, i * 4 + 1, none⟩ = some (.int .u64 ((f i).b.toNat : Nat)) ∧ w.cell? ⟨b, i * 4 + 2, none⟩ = some (.int .u64 ((f i).c.toNat : Nat)) ∧ w.cell? ⟨b, i * 4 + 3, none⟩ = some (.int .u64 ((f i).d.toNat : Nat)) := by
  have hr := at_ f hi
  have key : ∀ q, q < 4 → (cells f)[i * 4 + q]? = (Mt.row (f i))[q]? := fun q hq => by
    rw [← hr, List.getElem?_take, if_pos hq, List.getElem?_drop]
  exact ⟨h _ _ ((key 0 (by decide)).trans rfl), h _ _ ((key 1 (by decide)).trans rfl), h _ _ ((key 2 (by decide)).trans rfl), h _ _ ((key 3 (by decide)).trans rfl)⟩
theorem At.box {w : World} {b : Nat} {f : Nat → St} (h : BoxAt w b (cells f)) : At w b f := fun j u hj => (h j u hj).1
end Mt
namespace Sx
variable {P : Program} {ds : List Deferred} {w0 w : World} {a : Act} {o : Oper} {n : Nat} {kv : List (Nat × Value)} {bs : List Bx} {rs : List Rx} {K : Nat → Option Obj}
end Sx
end

section
namespace Rj
open Xo Xj
def pm (i : Nat) : Nat → St := fun j => it (2 ^ i) (bas j)
theorem of_pm (i : Nat) (s : St) : comb (pm i) s 256 = it (2 ^ i) s := comb_all (it (2 ^ i)) (it_zero _) (it_lin _) s
theorem next (x i : Nat) (s : St) (b : Bool) (h : x.testBit i = b) : it (x % 2 ^ (i + 1)) s = if b then comb (pm i) (it (x % 2 ^ i) s) 256 else it (x % 2 ^ i) s := by
  have hm : x % 2 ^ (i + 1) = x % 2 ^ i + 2 ^ i * b.toNat := by
    rw [Nat.mod_pow_succ, ← h, Nat.testBit_eq_decide_div_mod_eq]
    have h2 : x / 2 ^ i % 2 = 0 ∨ x / 2 ^ i % 2 = 1 := by omega
    rcases h2 with e | e <;> rw [e] <;> rfl
  rw [hm]
  cases b
  · show it (x % 2 ^ i + 2 ^ i * 0) s = it (x % 2 ^ i) s
    rw [Nat.mul_zero, Nat.add_zero]
  · show it (x % 2 ^ i + 2 ^ i * 1) s = _
    rw [Nat.mul_one, it_add, if_pos rfl, of_pm]
theorem full (x : BitVec 128) (n : Nat) (h : Bi.lenN x.getLsbD 128 = n) : x.toNat % 2 ^ n = x.toNat := by
  refine Nat.mod_eq_of_lt (Nat.lt_pow_two_of_testBit _ fun i hi => ?_)
  by_cases h8 : i < 128
  · exact Bi.lenN_above x.getLsbD 128 i (by omega) h8
  · exact Nat.testBit_lt_two_pow (Nat.lt_of_lt_of_le x.isLt (Nat.pow_le_pow_right (by decide) (by omega)))
end Rj
theorem Rj.lt {f : Nat → Bool} {n j : Nat} {u : Value} (h : (Bi.bis f n)[j]? = some u) : j < n := by
  have := (List.getElem?_eq_some_iff.1 h).1; rw [Bi.length] at this; exact this
theorem Rj.get {f : Nat → Bool} {n j : Nat} {u : Value} (h : (Bi.bis f n)[j]? = some u) : u = .int .i64 ((f j).toNat : Nat) := by
  rw [Bi.at_ f n j (Rj.lt h)] at h; exact (Option.some.inj h).symm
end
namespace Mx
def gamma : BitVec 64 := 0x9e3779b97f4a7c15#64
def t1 : BitVec 64 := 0xbf58476d1ce4e5b9#64
def t2 : BitVec 64 := 0x94d049bb133111eb#64
def i1 : BitVec 64 := 0x96de1b173f119089#64
def i2 : BitVec 64 := 0x319642b2d24d8ec3#64
def sh (z : BitVec 64) (n : Nat) : BitVec 64 := z ^^^ z >>> n
def mix (z : BitVec 64) : BitVec 64 := sh (sh (sh z 30 * t1) 27 * t2) 31
def un (z : BitVec 64) (n : Nat) : Nat → BitVec 64
  | 0 => z
  | k + 1 => z ^^^ un z n k >>> n
def undo (z : BitVec 64) (n : Nat) : BitVec 64 := un z n 2
def unmix (w : BitVec 64) : BitVec 64 := undo (undo (undo w 31 * i2) 27 * i1) 30
def step (s : BitVec 64) : BitVec 64 := s + gamma
def back (s : BitVec 64) : BitVec 64 := s - gamma
def word (s : BitVec 64) : BitVec 64 := mix (step s)
def jump (s n : BitVec 64) : BitVec 64 := s + n * gamma
theorem shr_shr (x : BitVec 64) (n m : Nat) : x >>> n >>> m = x >>> (n + m) := by
  apply BitVec.eq_of_getLsbD_eq
  intro i _
  simp only [BitVec.getLsbD_ushiftRight]
  rw [show n + (m + i) = n + m + i from by omega]
theorem shr_big (x : BitVec 64) (n : Nat) (h : 64 ≤ n) : x >>> n = 0#64 := by
  apply BitVec.eq_of_getLsbD_eq
  intro i _
  rw [BitVec.getLsbD_ushiftRight, BitVec.getLsbD_of_ge _ _ (by omega)]; simp
theorem xor_cancel (a b c : BitVec 64) : (a ^^^ b) ^^^ (a ^^^ c) = b ^^^ c := by
  rw [show (a ^^^ b) ^^^ (a ^^^ c) = (a ^^^ a) ^^^ (b ^^^ c) from by ac_rfl]; simp
theorem un_diff (z : BitVec 64) (n : Nat) : ∀ k, un z n (k + 1) ^^^ un z n k = z >>> (n * (k + 1))
  | 0 => by simp [un, BitVec.xor_comm, ← BitVec.xor_assoc]
  | k + 1 => by
    show (z ^^^ un z n (k + 1) >>> n) ^^^ (z ^^^ un z n k >>> n) = _
    rw [xor_cancel, ← BitVec.ushiftRight_xor_distrib, un_diff z n k, shr_shr, Nat.mul_succ n (k + 1)]
theorem un_fix (z : BitVec 64) (n k : Nat) (h : 64 ≤ n * (k + 1)) : un z n (k + 1) = un z n k := by
  have e := un_diff z n k
  rw [shr_big _ _ h] at e
  exact BitVec.xor_eq_zero_iff.1 e
theorem fix_unique (z x y : BitVec 64) (n : Nat) (hn : 22 ≤ n) (hx : z ^^^ x >>> n = x) (hy : z ^^^ y >>> n = y) : x = y := by
  have d : x ^^^ y = (x ^^^ y) >>> n := by
    rw [BitVec.ushiftRight_xor_distrib]
    calc x ^^^ y = (z ^^^ x >>> n) ^^^ (z ^^^ y >>> n) := by rw [hx, hy]
      _ = _ := xor_cancel _ _ _
  have d2 : x ^^^ y = (x ^^^ y) >>> (n + n + n) := by
    rw [← shr_shr, ← shr_shr, ← d, ← d, ← d]
  rw [shr_big _ _ (by omega)] at d2
  exact BitVec.xor_eq_zero_iff.1 d2
theorem undo_is (z x : BitVec 64) (n : Nat) (hn : 22 ≤ n) (hx : z ^^^ x >>> n = x) : x = undo z n :=
  fix_unique z x _ n hn hx (un_fix z n 2 (by omega))
theorem xx (a e : BitVec 64) : a ^^^ e ^^^ e = a := by rw [BitVec.xor_assoc, BitVec.xor_self, BitVec.xor_zero]
theorem undo_sh (z : BitVec 64) (n : Nat) (hn : 22 ≤ n) : undo (sh z n) n = z :=
  (undo_is (sh z n) z n hn (by unfold sh; rw [xx])).symm
theorem m1 (x : BitVec 64) : x * t1 * i1 = x := by rw [BitVec.mul_assoc, show t1 * i1 = 1#64 from by decide +kernel]; simp
theorem m2 (x : BitVec 64) : x * t2 * i2 = x := by rw [BitVec.mul_assoc, show t2 * i2 = 1#64 from by decide +kernel]; simp
theorem unmix_mix (z : BitVec 64) : unmix (mix z) = z := by
  unfold unmix mix
  rw [undo_sh _ _ (by omega), m2, undo_sh _ _ (by omega), m1, undo_sh _ _ (by omega)]
theorem back_step (s : BitVec 64) : back (step s) = s := by unfold back step; exact BitVec.add_sub_cancel ..
theorem mix_inj {a b : BitVec 64} : mix a = mix b ↔ a = b := ⟨fun h => by rw [← unmix_mix a, h, unmix_mix], fun h => by rw [h]⟩
theorem word_inj {a b : BitVec 64} : word a = word b ↔ a = b := by
  unfold word
  rw [mix_inj]
  exact ⟨fun h => by rw [← back_step a, h, back_step], fun h => by rw [h]⟩
end Mx
def inv64 (n : BitVec 64) : Nat → BitVec 64
  | 0 => n
  | k + 1 => inv64 n k * (2 - n * inv64 n k)
set_option maxRecDepth 100000 in
theorem inverse64_c (n : BitVec 64) (w : World) :
    Calls Tryz.prog 164 #[.int .u64 n.toNat] w fun e w' =>
      e = .returned (.int .u64 (inv64 n 6).toNat) ∧ w = w' := by
  go_enter Tryz.func164, Tryz.ntmps164
  go_wp2
  go_loop [3, 5] (fun x i => ∃ k : Nat, k ≤ 6 ∧ i = .int .i64 k ∧ x = .int .u64 (inv64 n k).toNat) (fun _ i => 6 - (intOf i).toNat)
  case atStart => exact ⟨0, by omega, rfl, rfl⟩
  case round =>
    obtain ⟨k, hk, rfl, rfl⟩ := hrel
    by_cases hlt : k < 6
    · go_wp2
      go_round
      case rel => exact ⟨k + 1, by omega, by go_num, by simp only [IntKind.wrap_u64, w64, BitVec.ofInt_mul, oi_sub, oi_toNat]; rfl⟩
      case measure => simp [intOf]; omega
    · obtain rfl : k = 6 := by omega
      go_wp2
      go_ret
      exact ⟨rfl, rfl⟩
theorem minv1_c (w : World) : Calls Tryz.prog 164 #[.int .u64 13787848793156543929] w fun e w' => e = .returned (.int .u64 10871156337175269513) ∧ w = w' :=
  Calls.val (inverse64_c 0xbf58476d1ce4e5b9#64 w) rfl (by rw [show (inv64 0xbf58476d1ce4e5b9#64 6).toNat = 10871156337175269513 from by decide +kernel]; rfl)
theorem minv2_c (w : World) : Calls Tryz.prog 164 #[.int .u64 10723151780598845931] w fun e w' => e = .returned (.int .u64 3573116690164977347) ∧ w = w' :=
  Calls.val (inverse64_c 0x94d049bb133111eb#64 w) rfl (by rw [show (inv64 0x94d049bb133111eb#64 6).toNat = 3573116690164977347 from by decide +kernel]; rfl)
theorem mrounds_c (w : World) : Calls Tryz.prog 163 #[] w fun e w' =>
    e = .returned (.agg #[.int .i64 30, .int .u64 13787848793156543929, .int .u64 10871156337175269513, .int .i64 27, .int .u64 10723151780598845931, .int .u64 3573116690164977347, .int .i64 31, .int .u64 1, .int .u64 1]) ∧ Below w.heap.size w w' := by
  go_enter Tryz.func163, Tryz.ntmps163
  go_wp2_with fail
  refine (minv1_c _).mono ?_
  rintro e w' ⟨rfl, rfl⟩
  go_wp2_with fail
  refine (minv2_c _).mono ?_
  rintro e w' ⟨rfl, rfl⟩
  go_wp2
  refine bodyPost_ret (v := .agg #[.int .i64 30, .int .u64 13787848793156543929, .int .u64 10871156337175269513, .int .i64 27, .int .u64 10723151780598845931, .int .u64 3573116690164977347, .int .i64 31, .int .u64 1, .int .u64 1]) (by simp [results, Tryz.results163, go_sem, *]) rfl ?_
  exact ⟨rfl, by (repeat' (first | (with_reducible exact Below.refl _ _) | (with_reducible assumption) | (with_reducible refine Below.alloc ?_ ?_ _) | (with_reducible refine Below.drew ?_) | (with_reducible refine below_drewN ?_ _) | (with_reducible refine Below.setCell ?_ ?_ _) | (with_reducible refine Below.trans ?_ (Below.mono (by assumption) ?_)) | go_size))⟩
theorem shw (a : BitVec 64) (n : Nat) (c : Int) (hc : c = ((2 ^ n : Nat) : Int)) : bits .xor .u64 (a.toNat : Int) ((a.toNat : Int) / c) = ((Mx.sh a n).toNat : Int) := by
  rw [hc, shr64, xor64]; rfl
theorem sh30 (a : BitVec 64) : bits .xor .u64 (a.toNat : Int) ((a.toNat : Int) / 1073741824) = ((Mx.sh a 30).toNat : Int) := shw a 30 _ (by decide)
theorem sh27 (a : BitVec 64) : bits .xor .u64 (a.toNat : Int) ((a.toNat : Int) / 134217728) = ((Mx.sh a 27).toNat : Int) := shw a 27 _ (by decide)
theorem sh31 (a : BitVec 64) : bits .xor .u64 (a.toNat : Int) ((a.toNat : Int) / 2147483648) = ((Mx.sh a 31).toNat : Int) := shw a 31 _ (by decide)
theorem mt1 (a : BitVec 64) : IntKind.u64.wrap ((a.toNat : Int) * 13787848793156543929) = ((a * Mx.t1).toNat : Int) := by
  rw [IntKind.wrap_u64, show (13787848793156543929 : Int) = (Mx.t1.toNat : Int) from by decide, mul64]
theorem mt2 (a : BitVec 64) : IntKind.u64.wrap ((a.toNat : Int) * 10723151780598845931) = ((a * Mx.t2).toNat : Int) := by
  rw [IntKind.wrap_u64, show (10723151780598845931 : Int) = (Mx.t2.toNat : Int) from by decide, mul64]
theorem wid (a : BitVec 64) : IntKind.u64.wrap (a.toNat : Int) = (a.toNat : Int) := by
  rw [IntKind.wrap_u64]; have := a.isLt; omega
set_option maxRecDepth 100000 in
set_option maxHeartbeats 1000000 in
theorem mmix_c (z : BitVec 64) (w : World) : Calls Tryz.prog 160 #[.int .u64 z.toNat] w fun e w' =>
    e = .returned (.int .u64 (Mx.mix z).toNat) ∧ Below w.heap.size w w' := by
  have x0 : ∀ w, (Instr.index 249 (.agg #[.int .i64 30, .int .u64 13787848793156543929, .int .u64 10871156337175269513, .int .i64 27, .int .u64 10723151780598845931, .int .u64 3573116690164977347, .int .i64 31, .int .u64 1, .int .u64 1]) (.int .i64 0)).run Tryz.prog w = .ok (.agg #[.int .i64 30, .int .u64 13787848793156543929, .int .u64 10871156337175269513]) w := fun _ => by kernel_rfl
  have x1 : ∀ w, (Instr.index 249 (.agg #[.int .i64 30, .int .u64 13787848793156543929, .int .u64 10871156337175269513, .int .i64 27, .int .u64 10723151780598845931, .int .u64 3573116690164977347, .int .i64 31, .int .u64 1, .int .u64 1]) (.int .i64 1)).run Tryz.prog w = .ok (.agg #[.int .i64 27, .int .u64 10723151780598845931, .int .u64 3573116690164977347]) w := fun _ => by kernel_rfl
  have x2 : ∀ w, (Instr.index 249 (.agg #[.int .i64 30, .int .u64 13787848793156543929, .int .u64 10871156337175269513, .int .i64 27, .int .u64 10723151780598845931, .int .u64 3573116690164977347, .int .i64 31, .int .u64 1, .int .u64 1]) (.int .i64 2)).run Tryz.prog w = .ok (.agg #[.int .i64 31, .int .u64 1, .int .u64 1]) w := fun _ => by kernel_rfl
  go_enter Tryz.func160, Tryz.ntmps160
  go_wp2_with fail
  refine (mrounds_c _).mono ?_
  rintro e w1 ⟨rfl, hb1⟩
  have hz1 := hb1.size
  go_wp2
  refine wp_loop_rounds 4 ?_
  rw [rounds_succ]
  go_wp2
  go_quiet (fail)
  go_wp2
  rw [rounds_succ]
  go_wp2
  go_quiet (fail)
  go_wp2
  rw [rounds_succ]
  go_wp2
  go_quiet (fail)
  go_wp2
  rw [rounds_succ]
  go_wp2
  go_ret
  exact ⟨ret_int (by rw [sh30, mt1, sh27, mt2, sh31, wid]; rfl), by (repeat' (first | (with_reducible exact Below.refl _ _) | (with_reducible assumption) | (with_reducible refine Below.alloc ?_ ?_ _) | (with_reducible refine Below.drew ?_) | (with_reducible refine below_drewN ?_ _) | (with_reducible refine Below.setCell ?_ ?_ _) | (with_reducible refine Below.trans ?_ (Below.mono (by assumption) ?_)) | go_size))⟩
namespace Mx
def b1 (a : BitVec 64) : BitVec 64 := a * i1
def b2 (a : BitVec 64) : BitVec 64 := a * i2
end Mx
section
theorem mg1 (a : BitVec 64) : IntKind.u64.wrap ((a.toNat : Int) + 11400714819323198485) = ((Mx.step a).toNat : Int) := by
  rw [IntKind.wrap_u64, show (11400714819323198485 : Int) = (Mx.gamma.toNat : Int) from by decide, add64]; rfl
theorem mg2 (a : BitVec 64) : IntKind.u64.wrap ((a.toNat : Int) - 11400714819323198485) = ((Mx.back a).toNat : Int) := by
  rw [IntKind.wrap_u64, show (11400714819323198485 : Int) = (Mx.gamma.toNat : Int) from by decide, sub64]; rfl
attribute [local go_sem] mg1 mg2
theorem mstep_c (s : BitVec 64) (w : World) : Calls Tryz.prog 150 #[.int .u64 s.toNat] w fun e w' => e = .returned (.int .u64 (Mx.step s).toNat) ∧ w = w' := by
  go_enter Tryz.func150, Tryz.ntmps150
  go_wp2
  go_ret
  exact ⟨rfl, rfl⟩
theorem mword_c (s : BitVec 64) (w : World) : Calls Tryz.prog 149 #[.int .u64 s.toNat] w fun e w' => e = .returned (.int .u64 (Mx.word s).toNat) ∧ Below w.heap.size w w' := by
  go_enter Tryz.func149, Tryz.ntmps149
  go_wp2_with fail
  refine (mstep_c _ _).mono ?_
  rintro e w' ⟨rfl, rfl⟩
  go_wp2_with fail
  refine (mmix_c _ _).mono ?_
  rintro e w1 ⟨rfl, hb1⟩
  go_wp2
  go_ret
  exact ⟨rfl, by (repeat' (first | (with_reducible exact Below.refl _ _) | (with_reducible assumption) | (with_reducible refine Below.alloc ?_ ?_ _) | (with_reducible refine Below.drew ?_) | (with_reducible refine below_drewN ?_ _) | (with_reducible refine Below.setCell ?_ ?_ _) | (with_reducible refine Below.trans ?_ (Below.mono (by assumption) ?_)) | go_size))⟩
end
section
def Mx.plus (a b : BitVec 64) : BitVec 64 := a + b
theorem mj_sum (a b : BitVec 64) : IntKind.u64.wrap ((a.toNat : Int) + (b.toNat : Int)) = ((Mx.plus a b).toNat : Int) := by rw [IntKind.wrap_u64, add64]; rfl
attribute [local go_sem] mj_sum
set_option maxRecDepth 100000 in
theorem mjump_c (s : BitVec 64) (n : BitVec 128) (w : World) :
    Calls Tryz.prog 190 #[.int .u64 s.toNat, .agg #[.int .u64 (Wd.hi n).toNat, .int .u64 (Wd.lo n).toNat]] w fun e w' => e = .returned (.int .u64 (Mx.jump s (Wd.lo n)).toNat) ∧ Below w.heap.size w w' := by
  have D1 := Lib.hid (show ∀ w, Calls Tryz.prog 15 #[.int .u64 11400714819323198485] w fun e w' => e = .returned (.agg #[.int .u64 (Wd.hi (Wd.of Mx.gamma)).toNat, .int .u64 (Wd.lo (Wd.of Mx.gamma)).toNat]) ∧ Below w.heap.size w w' from
    fun w => Calls.val (wofV_c Mx.gamma w) rfl rfl)
  have D2 := Lib.hid (fun w => wmul_c n (Wd.of Mx.gamma) w)
  have L := Lib.hid (show Mx.plus s (Wd.lo (n * Wd.of Mx.gamma)) = Mx.jump s (Wd.lo n) from by
    unfold Mx.plus
    rw [← Wd.mul_lo, Wd.of, Wd.lo_mk, Mx.jump]; congr 1
    apply BitVec.eq_of_toNat_eq
    rw [← Wd.full_lo, BitVec.toNat_mul])
  go_enter Tryz.func190, Tryz.ntmps190
  go_wp2_with fail
  refine wp_region_held_drew (S := (fun w' => (w'.cell? ⟨w.heap.size, 0, none⟩ = some (.int .u64 (Wd.hi n).toNat) ∧ w'.cell? ⟨w.heap.size, 1, none⟩ = some (.int .u64 (Wd.lo n).toNat)))) (by kernel_rfl) (by (try dsimp only); go_keep) (fun hHeld => ?_)
  first
    | (refine wpAnyH_take (i := 0) (v := ?_) (by (simp only [List.getElem?_toArray, List.getElem?_cons_zero, List.getElem?_cons_succ]; rfl)) (by kernel_rfl) (by kernel_rfl) (by kernel_rfl) (by (intro _ _ _ h; exact h)) (Or.inl ⟨by rfl, ?_⟩) (by assumption) ?_; rotate_left; intro w hSw; (try dsimp only at hSw); go_simp; (try with_reducible rfl))
    | (refine wpAnyH_take (i := 0) (v := undef) (by (simp only [List.getElem?_toArray, List.getElem?_cons_zero, List.getElem?_cons_succ]; rfl)) (by kernel_rfl) (by kernel_rfl) (by kernel_rfl) (by (intro _ _ _ h; exact h)) (Or.inr ⟨by rfl, rfl⟩) (by assumption) ?_)
  (try simp only [Act.put, List.setIfInBounds_toArray, List.set_cons_zero, List.set_cons_succ])
  first
    | (refine wpAnyH_take (i := 1) (v := ?_) (by (simp only [List.getElem?_toArray, List.getElem?_cons_zero, List.getElem?_cons_succ]; rfl)) (by kernel_rfl) (by kernel_rfl) (by kernel_rfl) (by (intro _ _ _ h; exact h)) (Or.inl ⟨by rfl, ?_⟩) (by assumption) ?_; rotate_left; intro w hSw; (try dsimp only at hSw); go_simp; (try with_reducible rfl))
    | (refine wpAnyH_take (i := 1) (v := undef) (by (simp only [List.getElem?_toArray, List.getElem?_cons_zero, List.getElem?_cons_succ]; rfl)) (by kernel_rfl) (by kernel_rfl) (by kernel_rfl) (by (intro _ _ _ h; exact h)) (Or.inr ⟨by rfl, rfl⟩) (by assumption) ?_)
  (try simp only [Act.put, List.setIfInBounds_toArray, List.set_cons_zero, List.set_cons_succ])
  refine wpAnyH_ready (rs := [2]) (by kernel_rfl) (by simp) (AllReadyH.cons (by (simp only [List.getElem?_toArray, List.getElem?_cons_zero, List.getElem?_cons_succ]; rfl)) (fun K hK => ?_) AllReadyH.nil)
  (try go_simp)
  refine (D1.out _).mono ?_; rintro e w' ⟨rfl, hb⟩; have hk := keep_cell hb; have hz := hb.size; (try simp at hz)
  go_wp2_with fail
  refine hK.out _ _ ?_ (fun hHeld => ?_)
  · (try dsimp only)
    go_keep
  clear hK K
  (try simp only [Act.put, List.setIfInBounds_toArray, List.set_cons_zero, List.set_cons_succ])
  refine wpAnyH_ready (rs := [3]) (by kernel_rfl) (by simp) (AllReadyH.cons (by (simp only [List.getElem?_toArray, List.getElem?_cons_zero, List.getElem?_cons_succ]; rfl)) (fun K hK => ?_) AllReadyH.nil)
  (try go_simp)
  refine (D2.out _).mono ?_; rintro e w' ⟨rfl, hb⟩; have hk := keep_cell hb; have hz := hb.size; (try simp at hz)
  go_wp2_with fail
  refine hK.out _ _ ?_ (fun hHeld => ?_)
  · (try dsimp only)
    go_keep
  clear hK K
  (try simp only [Act.put, List.setIfInBounds_toArray, List.set_cons_zero, List.set_cons_succ])
  first
    | (refine wpAnyH_take (i := 4) (v := ?_) (by (simp only [List.getElem?_toArray, List.getElem?_cons_zero, List.getElem?_cons_succ]; rfl)) (by kernel_rfl) (by kernel_rfl) (by kernel_rfl) (by (intro _ _ _ h; exact h)) (Or.inl ⟨by rfl, ?_⟩) (by assumption) ?_; rotate_left; intro w hSw; (try dsimp only at hSw); go_simp; (try with_reducible rfl))
    | (refine wpAnyH_take (i := 4) (v := undef) (by (simp only [List.getElem?_toArray, List.getElem?_cons_zero, List.getElem?_cons_succ]; rfl)) (by kernel_rfl) (by kernel_rfl) (by kernel_rfl) (by (intro _ _ _ h; exact h)) (Or.inr ⟨by rfl, rfl⟩) (by assumption) ?_)
  (try simp only [Act.put, List.setIfInBounds_toArray, List.set_cons_zero, List.set_cons_succ])
  first
    | (refine wpAnyH_take (i := 5) (v := ?_) (by (simp only [List.getElem?_toArray, List.getElem?_cons_zero, List.getElem?_cons_succ]; rfl)) (by kernel_rfl) (by kernel_rfl) (by kernel_rfl) (by (intro _ _ _ h; exact h)) (Or.inl ⟨by rfl, ?_⟩) (by assumption) ?_; rotate_left; intro w hSw; (try dsimp only at hSw); go_simp; (try with_reducible rfl))
    | (refine wpAnyH_take (i := 5) (v := undef) (by (simp only [List.getElem?_toArray, List.getElem?_cons_zero, List.getElem?_cons_succ]; rfl)) (by kernel_rfl) (by kernel_rfl) (by kernel_rfl) (by (intro _ _ _ h; exact h)) (Or.inr ⟨by rfl, rfl⟩) (by assumption) ?_)
  (try simp only [Act.put, List.setIfInBounds_toArray, List.set_cons_zero, List.set_cons_succ])
  first
    | (refine wpAnyH_take (i := 6) (v := ?_) (by (simp only [List.getElem?_toArray, List.getElem?_cons_zero, List.getElem?_cons_succ]; rfl)) (by kernel_rfl) (by kernel_rfl) (by kernel_rfl) (by (intro _ _ _ h; exact h)) (Or.inl ⟨by rfl, ?_⟩) (by assumption) ?_; rotate_left; intro w hSw; (try dsimp only at hSw); go_simp; (try with_reducible rfl))
    | (refine wpAnyH_take (i := 6) (v := undef) (by (simp only [List.getElem?_toArray, List.getElem?_cons_zero, List.getElem?_cons_succ]; rfl)) (by kernel_rfl) (by kernel_rfl) (by kernel_rfl) (by (intro _ _ _ h; exact h)) (Or.inr ⟨by rfl, rfl⟩) (by assumption) ?_)
  (try simp only [Act.put, List.setIfInBounds_toArray, List.set_cons_zero, List.set_cons_succ])
  refine wpAnyH_done (by kernel_rfl) ?_ _
  go_wp2
  go_ret
  exact ⟨by rw [← L.out]; rfl, by (repeat' (first | (with_reducible exact Below.refl _ _) | (with_reducible assumption) | (with_reducible refine Below.alloc ?_ ?_ _) | (with_reducible refine Below.drew ?_) | (with_reducible refine below_drewN ?_ _) | (with_reducible refine Below.setCell ?_ ?_ _) | (with_reducible refine Below.trans ?_ (Below.mono (by assumption) ?_)) | go_size))⟩
namespace Mx
def it : Nat → BitVec 64 → BitVec 64
  | 0, s => s
  | n + 1, s => step (it n s)
end Mx
end
namespace R1
abbrev B : BitVec 64 := 4294967296#64
theorem comb (S0 S1 S2 p30 a0 a1 a2 a3 b1 b2 b3 c2 c3 d3 n30 : Nat) (r4 : S0 % 340282366920938463463374607431768211456 = a0 + 4294967296 * a1 + 18446744073709551616 * a2 + 79228162514264337593543950336 * a3)
    (r3 : (a1 + 4294967296 * a2 + 18446744073709551616 * a3 + S1) % 79228162514264337593543950336 = b1 + 4294967296 * b2 + 18446744073709551616 * b3)
    (r2 : (b2 + 4294967296 * b3 + S2) % 18446744073709551616 = c2 + 4294967296 * c3) (r1 : n30 = c3 + p30) (hd : d3 = n30 % 4294967296) (ha0 : a0 < 4294967296) (hb1 : b1 < 4294967296) (hc2 : c2 < 4294967296) :
    (S0 + 4294967296 * S1 + 18446744073709551616 * S2 + 79228162514264337593543950336 * p30) % 340282366920938463463374607431768211456 = a0 + 4294967296 * b1 + 18446744073709551616 * c2 + 79228162514264337593543950336 * d3 := by omega
theorem cB (p : BitVec 64) (h : p.toNat < 4294967296) : (4294967295#64 - p).toNat = 4294967295 - p.toNat := by
  rw [BitVec.toNat_sub, show (4294967295#64 : BitVec 64).toNat = 4294967295 from rfl]; omega
end R1





abbrev L16 : Value := .agg #[uN (Wd.hi 1#128), uN (Wd.lo 1#128), uN (Wd.hi 0#128), uN (Wd.lo 0#128)]
abbrev L17 : Value := .agg #[uN (Wd.hi 1#128), uN (Wd.lo 1#128)]
open Sx in
theorem aone_c  (w0 : World) : Calls Tryz.prog 256 #[] w0 fun e w' => e = .returned (L16) ∧ Below w0.heap.size w0 w' := by
 refine En Tryz.func256 Tryz.ntmps256 fun A F => ?_
 have H := Sx.Own.start w0
 refine Sp fun _ kk => Zb F (d_alloc H rfl L3 zero_316) fun g1 A w F H => ?_
 refine Nl kk (Sp fun _ kk => Zw F (d_call (vs := [iU 1]) (v := L17) if_15 F H rfl rfl (Calls.val (wofV_c 1#64 _) (by kernel_rfl) (by kernel_rfl))) fun A w F H => ?_)
 refine Zv F (d_build (qs := #[(0, L17)]) (v := L16) F rfl rfl (by kernel_rfl)) fun A F => ?_
 refine Zs 0 [uN (Wd.hi 1#128), uN (Wd.lo 1#128), uN (Wd.hi 0#128), uN (Wd.lo 0#128)] sz_316 F H fun A w F H => ?_
 refine Nl kk (wp_ret ?_)
 try dsimp only [Exit.then, Exit.inBlock, Exit.jump]
 refine ret1 F Tryz.results256 (res_row (i := 0) (xs := [uN (Wd.hi 1#128), uN (Wd.lo 1#128), uN (Wd.hi 0#128), uN (Wd.lo 0#128)]) rw_316 F H rfl rfl rfl rfl) ⟨?_, H.below⟩
 rfl
abbrev L18 (x0 x1 : BitVec 128) : Value := .agg #[uH x0, uL x0, uH x1, uL x1]
abbrev L19 (x0 x1 x2 : BitVec 128) : List Value := [uH ((x0 * x1) + x2), uL ((x0 * x1) + x2)]
open Sx in
theorem aat_c (qa qc x : BitVec 128) (w0 : World) : Calls Tryz.prog 253 #[(L18 qa qc), .agg #[uH x, uL x]] w0 fun e w' => e = .returned (.agg #[uH (qa * x + qc), uL (qa * x + qc)]) ∧ Below w0.heap.size w0 w' := by
 refine En Tryz.func253 Tryz.ntmps253 fun A F => ?_
 have H := Sx.Own.start w0
 refine Sp fun _ kk => Zb F (d_box F H rfl rfl [uH qa, uL qa, uH qc, uL qc] rfl) fun g1 A w F H => ?_
 refine Zb F (d_box F H rfl rfl [uH x, uL x] rfl) fun g2 A w F H => ?_
 refine Zb F (d_alloc H rfl L1 zero_26) fun g3 A w F H => ?_
 refine Nl kk (Sx.seq fun K2 hK2 => ?_)
 have F := F.tq [(0, (L18 qa qc)), (1, .agg #[uH x, uL x]), (2, pT g1 0), (3, pT g2 0), (4, pT g3 0)] rfl
 refine Dn F [some (pT g1 0), some (.agg #[uH qa, uL qa]), some (.agg #[uH x, uL x]), some (.agg #[uH (qa * x), uL (qa * x)]), some (pT g1 2), some (.agg #[uH qc, uL qc]), some (.tuple #[.agg #[uH ((qa * x) + qc), uL ((qa * x) + qc)], .bool (Wd.over (qa * x) qc)]), some (.tuple #[.agg #[uH ((qa * x) + qc), uL ((qa * x) + qc)], .bool (Wd.over (qa * x) qc)]), some (.agg #[uH ((qa * x) + qc), uL ((qa * x) + qc)]), some (.bool (Wd.over (qa * x) qc)), none, none, some (.bool (Wd.over (qa * x) qc))] (fun L A w => ∃ g4 : Nat, (L 10 = true → A.eval (.tmp 5) = pT g4 0) ∧ Sx.Own w0 w [(true, g3, L1), (true, g2, [uH x, uL x]), (true, g1, [uH qa, uL qa, uH qc, uL qc]), (L 10, g4, (cond (L 11) (L19 qa x qc) L1))] []) ⟨0, (fun h => by cases h), H.drew.pad [(false, 0, L1)] rfl [] rfl⟩ ?_ ?_
 ·refine ⟨?_, ?_, ?_, ?_, ?_, ?_, ?_, ?_, ?_, ?_, ?_, ?_, ?_, trivial⟩
  ·exact Sa (hS := (fun _ _ _ _ ⟨g4, p10, H⟩ => ⟨g4, Pk p10, H⟩))
  ·exact SV (fun _ _ _ F ⟨g4, p10, H⟩ => Lr 2 [uH qa, uL qa] rw_26 F H) (fun _ _ _ _ ⟨g4, p10, H⟩ => ⟨g4, Pk p10, H⟩)
  ·exact SV (fun _ _ _ F ⟨g4, p10, H⟩ => Lr 1 [uH x, uL x] rw_26 F H) (fun _ _ _ _ ⟨g4, p10, H⟩ => ⟨g4, Pk p10, H⟩)
  ·intro L A w up hun hd F ⟨g4, p10, H⟩
   have f11 : L 11 = false := up 11 3 rfl hun
   rw [f11] at H
   refine step_on rfl (Dc if_192 F H (wmul_c qa x _)) ?_
   rintro xv w' ⟨hx, H⟩
   exact ⟨Cs hx, ⟨g4, Pk p10, (by show Sx.Own _ _ _ _; rw [show Inv.add L 3 11 = false from f11]; exact H)⟩⟩
  ·exact Sa (hS := (fun _ _ _ _ ⟨g4, p10, H⟩ => ⟨g4, Pk p10, H⟩))
  ·exact SV (fun _ _ _ F ⟨g4, p10, H⟩ => Lr 2 [uH qc, uL qc] rw_26 F H) (fun _ _ _ _ ⟨g4, p10, H⟩ => ⟨g4, Pk p10, H⟩)
  ·intro L A w up hun hd F ⟨g4, p10, H⟩
   have f11 : L 11 = false := up 11 6 rfl hun
   rw [f11] at H
   refine step_on rfl (Dc if_14 F H (wadd_c (qa * x) qc _)) ?_
   rintro xv w' ⟨hx, H⟩
   exact ⟨Cs hx, ⟨g4, Pk p10, (by show Sx.Own _ _ _ _; rw [show Inv.add L 6 11 = false from f11]; exact H)⟩⟩
  ·exact Sa (hS := (fun _ _ _ _ ⟨g4, p10, H⟩ => ⟨g4, Pk p10, H⟩))
  ·exact Sa (hS := (fun _ _ _ _ ⟨g4, p10, H⟩ => ⟨g4, Pk p10, H⟩))
  ·exact Sa (hS := (fun _ _ _ _ ⟨g4, p10, H⟩ => ⟨g4, Pk p10, H⟩))
  ·intro L A w up hun hd F ⟨g4, p10, H⟩
   have f10 : L 10 = false := hun
   have f11 : L 11 = false := up 11 10 rfl hun
   rw [f10, f11] at H
   refine step_on rfl (d_alloc_at H rfl 3 L1 zero_26) ?_
   rintro xv w' ⟨g', hx, H⟩
   exact ⟨Cn, ⟨g', (fun _ => (Sx.put_same F (by decide) _).trans hx), (by show Sx.Own _ _ _ _; rw [show Inv.add L 10 11 = false from f11]; exact H)⟩⟩
  ·intro L A w up hun hd F ⟨g4, p10, H⟩
   have t10 : L 10 = true := hd 10 rfl
   have f11 : L 11 = false := hun
   rw [t10, f11] at H
   have F := Fr.add F (p10 t10)
   refine step_on rfl (d_store (i := 3) (xs := (L19 qa x qc)) (us := (L19 qa x qc)) sz_26 F H rfl rfl rfl rfl rfl rfl rfl (Nat.le_of_ble_eq_true rfl) rfl) ?_
   intro xv w' H
   exact ⟨Cn, ⟨g4, p10, (by show Sx.Own _ _ _ _; rw [show Inv.add L 11 10 = true from t10]; exact H)⟩⟩
  ·intro L A w up hun hd F ⟨g4, p10, H⟩
   have t10 : L 10 = true := hd 10 rfl
   have t11 : L 11 = true := hd 11 rfl
   have Hj := H; rw [t10, t11] at Hj
   have F := Fr.add F (p10 t10)
   refine step_on rfl (d_move F (Or.inr rfl) rfl) ?_
   rintro xv w' ⟨hx, rfl⟩
   exact ⟨Cs hx, ⟨g4, Pk p10, H⟩⟩
 ·intro L A w hL F ⟨g4, p10, H⟩
  have t10 : L 10 = true := hL 10 rfl
  have t11 : L 11 = true := hL 11 rfl
  rw [t10, t11] at H
  have F := Fr.add F (p10 t10)
  have F := F.tq [(0, (L18 qa qc)), (1, .agg #[uH x, uL x]), (4, pT g3 0), (5, pT g4 0)] rfl
  refine hK2 _ _ (Sp fun _ kk => Av F fun A F => ?_)
  refine Zt F (d_store (i := 0) (xs := (L19 qa x qc)) (us := (L19 qa x qc)) sz_26 F H rfl rfl rfl rfl rfl rfl rfl (Nat.le_of_ble_eq_true rfl) rfl) fun A w F (H : Sx.Own w0 _ [(true, g3, (L19 qa x qc)), (true, g2, [uH x, uL x]), (true, g1, [uH qa, uL qa, uH qc, uL qc]), (true, g4, (L19 qa x qc))] []) => ?_
  refine Nl kk (wp_ret ?_)
  try dsimp only [Exit.then, Exit.inBlock, Exit.jump]
  refine ret1 F Tryz.results253 (res_row (i := 0) (xs := [uH ((qa * x) + qc), uL ((qa * x) + qc)]) rw_26 F H rfl rfl rfl rfl) ⟨?_, H.below⟩
  rfl
open Sx in
theorem athen_c (qa qc qb qd : BitVec 128) (w0 : World) : Calls Tryz.prog 257 #[(L18 qa qc), (L18 qb qd)] w0 fun e w' => e = .returned (.agg #[uH (qb * qa), uL (qb * qa), uH (qb * qc + qd), uL (qb * qc + qd)]) ∧ Below w0.heap.size w0 w' := by
 refine En Tryz.func257 Tryz.ntmps257 fun A F => ?_
 have H := Sx.Own.start w0
 refine Sp fun _ kk => Zb F (d_box F H rfl rfl [uH qa, uL qa, uH qc, uL qc] rfl) fun g1 A w F H => ?_
 refine Zb F (d_box F H rfl rfl [uH qb, uL qb, uH qd, uL qd] rfl) fun g2 A w F H => ?_
 refine Zb F (d_alloc H rfl L3 zero_316) fun g3 A w F H => ?_
 refine Nl kk (Sx.seq fun K2 hK2 => ?_)
 have F := F.tq [(0, (L18 qa qc)), (1, (L18 qb qd)), (2, pT g1 0), (3, pT g2 0), (4, pT g3 0)] rfl
 refine Dn F [some (pT g2 0), some (.agg #[uH qb, uL qb]), some (pT g1 0), some (.agg #[uH qa, uL qa]), some (.agg #[uH (qb * qa), uL (qb * qa)]), some (L18 qb qd), some (pT g1 2), some (.agg #[uH qc, uL qc]), some (.agg #[uH (qb * qc + qd), uL (qb * qc + qd)]), some (.agg #[uH (qb * qa), uL (qb * qa), uH (qb * qc + qd), uL (qb * qc + qd)]), none] (fun L A w => Sx.Own w0 w [(true, g3, (cond (L 10) [uH (qb * qa), uL (qb * qa), uH (qb * qc + qd), uL (qb * qc + qd)] L3)), (true, g2, [uH qb, uL qb, uH qd, uL qd]), (true, g1, [uH qa, uL qa, uH qc, uL qc])] []) H.drew ?_ ?_
 ·refine ⟨?_, ?_, ?_, ?_, ?_, ?_, ?_, ?_, ?_, ?_, ?_, trivial⟩
  ·exact Sa
  ·exact SV (fun _ _ _ F H => Lr 1 [uH qb, uL qb] rw_26 F H)
  ·exact Sa
  ·exact SV (fun _ _ _ F H => Lr 2 [uH qa, uL qa] rw_26 F H)
  ·intro L A w up hun hd F H
   have f10 : L 10 = false := up 10 4 rfl hun
   rw [f10] at H
   refine step_on rfl (Dc if_192 F H (wmul_c qb qa _)) ?_
   rintro xv w' ⟨hx, H⟩
   exact ⟨Cs hx, (by show Sx.Own _ _ _ _; rw [show Inv.add L 4 10 = false from f10]; exact H)⟩
  ·exact SV (fun _ _ _ F H => Lr 1 [uH qb, uL qb, uH qd, uL qd] rw_316 F H)
  ·exact Sa
  ·exact SV (fun _ _ _ F H => Lr 2 [uH qc, uL qc] rw_26 F H)
  ·intro L A w up hun hd F H
   have f10 : L 10 = false := up 10 8 rfl hun
   rw [f10] at H
   refine step_on rfl (Dc if_253 F H (aat_c qb qd qc _)) ?_
   rintro xv w' ⟨hx, H⟩
   exact ⟨Cs hx, (by show Sx.Own _ _ _ _; rw [show Inv.add L 8 10 = false from f10]; exact H)⟩
  ·exact SV (fun _ _ _ F _ => d_build (qs := #[(0, .agg #[uH (qb * qa), uL (qb * qa)]), (1, .agg #[uH (qb * qc + qd), uL (qb * qc + qd)])]) (v := .agg #[uH (qb * qa), uL (qb * qa), uH (qb * qc + qd), uL (qb * qc + qd)]) F rfl rfl (by kernel_rfl))
  ·intro L A w up hun hd F H
   have f10 : L 10 = false := hun
   rw [f10] at H
   refine step_on rfl (d_store (i := 0) (xs := [uH (qb * qa), uL (qb * qa), uH (qb * qc + qd), uL (qb * qc + qd)]) (us := [uH (qb * qa), uL (qb * qa), uH (qb * qc + qd), uL (qb * qc + qd)]) sz_316 F H rfl rfl rfl rfl rfl rfl rfl (Nat.le_of_ble_eq_true rfl) rfl) ?_
   intro xv w' H
   exact ⟨Cn, H⟩
 ·intro L A w hL F H
  have t10 : L 10 = true := hL 10 rfl
  rw [t10] at H
  have F := F.tq [(0, (L18 qa qc)), (1, (L18 qb qd)), (4, pT g3 0)] rfl
  refine hK2 _ _ (wp_ret ?_)
  try dsimp only [Exit.then, Exit.inBlock, Exit.jump]
  refine ret1 F Tryz.results257 (res_row (i := 0) (xs := [uH (qb * qa), uL (qb * qa), uH (qb * qc + qd), uL (qb * qc + qd)]) rw_316 F H rfl rfl rfl rfl) ⟨?_, H.below⟩
  rfl
theorem bit_odd (n : BitVec 128) : Wd.bit n 0 = (Af.odd n).toNat := rfl
set_option maxHeartbeats 4000000 in
open Sx in
theorem apow_c (ma mc n : BitVec 128) (w0 : World) : Calls Tryz.prog 254 #[.agg #[uH ma, uL ma, uH mc, uL mc], .agg #[uH n, uL n]] w0 fun e w' => e = .returned (.agg #[uH ((Af.pow ⟨ma, mc⟩ n.toNat).a), uL ((Af.pow ⟨ma, mc⟩ n.toNat).a), uH ((Af.pow ⟨ma, mc⟩ n.toNat).c), uL ((Af.pow ⟨ma, mc⟩ n.toNat).c)]) ∧ Below w0.heap.size w0 w' := by
 refine En Tryz.func254 Tryz.ntmps254 fun A F => ?_
 have H := Sx.Own.start w0
 refine Sp fun _ kk => Zb F (d_box F H rfl rfl [uH ma, uL ma, uH mc, uL mc] rfl) fun g1 A w F H => ?_
 refine Zb F (d_box F H rfl rfl [uH n, uL n] rfl) fun g2 A w F H => ?_
 refine Zb F (d_alloc H rfl [uN (Wd.hi 0#128), uN (Wd.lo 0#128), uN (Wd.hi 0#128), uN (Wd.lo 0#128)] zero_316) fun g3 A w F H => ?_
 refine Nl kk ?_
 refine Sx.scope 0 (fun m A w => ∃ (ob : Nat) (A' C' N' OA OC : BitVec 128), m = N'.toNat ∧ Af.thn ⟨OA, OC⟩ (Af.pow ⟨A', C'⟩ N'.toNat) = Af.pow ⟨ma, mc⟩ n.toNat ∧ Fr 22 A [(2, pT g1 0), (3, pT g2 0), (4, pT g3 0), (5, pT ob 0)] ∧ Sx.Own w0 w [(true, ob, [uH OA, uL OA, uH OC, uL OC]), (true, g3, [uN (Wd.hi 0#128), uN (Wd.lo 0#128), uN (Wd.hi 0#128), uN (Wd.lo 0#128)]), (true, g2, [uH N', uL N']), (true, g1, [uH A', uL A', uH C', uL C'])] []) rfl ?_ (fun first => ?_)
 ·rintro m A w ⟨ob, A', C', N', OA, OC, rfl, hJ, F, H⟩
  by_cases hz : N' = 0#128
  ·skip
   refine Sx.seq fun K2 hK2 => Sp fun _ kk => Av F fun A F => ?_
   refine Zv F (d_build (qs := #[]) (v := .agg #[uN (Wd.hi 0#128), uN (Wd.lo 0#128)]) F rfl rfl (by kernel_rfl)) fun A F => ?_
   refine Zv F (Bn bT F rfl rfl rfl (i_eqV (by rw [hz]; exact eqb_self _))) fun A F => ?_
   refine Nl kk (condT F rfl (Sp fun _ kk => Av F fun A F => ?_))
   refine Zs 1 [uH OA, uL OA, uH OC, uL OC] sz_316 F H fun A w F H => ?_
   refine Nl kk (wp_ret ?_)
   try dsimp only [Exit.then, Exit.inBlock, Exit.jump]
   refine ret1 F Tryz.results254 (res_row (i := 1) (xs := [uH OA, uL OA, uH OC, uL OC]) rw_316 F H rfl rfl rfl rfl) ⟨?_, H.below⟩
   exact congrArg Ending.returned (by rw [show Af.pow ⟨ma, mc⟩ n.toNat = ⟨OA, OC⟩ from by rw [← hJ, hz]; exact Af.thn_one _])
  ·skip
   have hlt : (N' >>> 1).toNat < N'.toNat := by rw [Af.half_nat]; have : N'.toNat ≠ 0 := fun e => hz (BitVec.eq_of_toNat_eq (by rw [e]; rfl)); omega
   cases ho : Af.odd N'
   ·skip
    refine Sx.seq fun K5 hK5 => Sp fun _ kk => Av F fun A F => ?_
    refine Zv F (d_build (qs := #[]) (v := .agg #[uN (Wd.hi 0#128), uN (Wd.lo 0#128)]) F rfl rfl (by kernel_rfl)) fun A F => ?_
    refine Zv F (Bn bF F rfl rfl rfl (i_eqV (eqb_ne hz))) fun A F => ?_
    refine Nl kk (condF F rfl (wp_skip (hK5 _ _ (Sx.seq fun K7 hK7 => Sp fun _ kk => Av F fun A F => ?_))))
    refine Zw F (Dc if_232 F H (wbit_c N' 0 (by omega) _)) fun A w F H => ?_
    refine Zv F (Bn bF F rfl rfl rfl (i_eq (by rw [bit_odd, ho]; rfl))) fun A F => ?_
    refine Nl kk (condF F rfl (wp_skip (hK7 _ _ (Sx.seq fun K9 hK9 => ?_))))
    have F := F.tq [(2, pT g1 0), (3, pT g2 0), (4, pT g3 0), (5, pT ob 0), (7, .agg #[uH N', uL N']), (8, .agg #[uN (Wd.hi 0#128), uN (Wd.lo 0#128)]), (9, bF), (11, .agg #[uH N', uL N']), (12, iI (Wd.bit N' 0)), (13, bF)] rfl
    refine Dn F [some (.agg #[uH A', uL A', uH C', uL C']), some (.agg #[uH A', uL A', uH C', uL C']), some (.agg #[uH (A' * A'), uL (A' * A'), uH (A' * C' + C'), uL (A' * C' + C')]), some (.agg #[uH N', uL N']), some (.agg #[uH (N' >>> 1), uL (N' >>> 1)]), none, none] (fun L A w => Sx.Own w0 w [(true, ob, [uH OA, uL OA, uH OC, uL OC]), (true, g3, [uN (Wd.hi 0#128), uN (Wd.lo 0#128), uN (Wd.hi 0#128), uN (Wd.lo 0#128)]), (true, g2, (cond (L 6) [uH (N' >>> 1), uL (N' >>> 1)] [uH N', uL N'])), (true, g1, (cond (L 5) [uH (A' * A'), uL (A' * A'), uH (A' * C' + C'), uL (A' * C' + C')] [uH A', uL A', uH C', uL C']))] []) H.drew ?_ ?_
    ·refine ⟨?_, ?_, ?_, ?_, ?_, ?_, ?_, trivial⟩
     ·intro L A w up hun hd F H
      have f5 : L 5 = false := up 5 0 rfl hun
      have f6 : L 6 = false := up 6 0 rfl hun
      have Hj := H; rw [f5, f6] at Hj
      refine step_on rfl (Lr 3 [uH A', uL A', uH C', uL C'] rw_316 F Hj) ?_
      rintro xv w' ⟨hx, rfl⟩
      exact ⟨Cs hx, H⟩
     ·intro L A w up hun hd F H
      have f5 : L 5 = false := up 5 1 rfl hun
      have f6 : L 6 = false := up 6 1 rfl hun
      have Hj := H; rw [f5, f6] at Hj
      refine step_on rfl (Lr 3 [uH A', uL A', uH C', uL C'] rw_316 F Hj) ?_
      rintro xv w' ⟨hx, rfl⟩
      exact ⟨Cs hx, H⟩
     ·intro L A w up hun hd F H
      have f5 : L 5 = false := up 5 2 rfl hun
      have f6 : L 6 = false := up 6 2 rfl hun
      rw [f5, f6] at H
      refine step_on rfl (Dc if_257 F H (athen_c A' C' A' C' _)) ?_
      rintro xv w' ⟨hx, H⟩
      exact ⟨Cs hx, (by show Sx.Own _ _ _ _; rw [show Inv.add L 2 5 = false from f5, show Inv.add L 2 6 = false from f6]; exact H)⟩
     ·intro L A w up hun hd F H
      have f4 : L 4 = false := up 4 3 rfl hun
      have f5 : L 5 = false := up 5 4 rfl f4
      have f6 : L 6 = false := up 6 3 rfl hun
      have Hj := H; rw [f5, f6] at Hj
      refine step_on rfl (Lr 2 [uH N', uL N'] rw_26 F Hj) ?_
      rintro xv w' ⟨hx, rfl⟩
      exact ⟨Cs hx, H⟩
     ·intro L A w up hun hd F H
      have f5 : L 5 = false := up 5 4 rfl hun
      have f6 : L 6 = false := up 6 4 rfl hun
      rw [f5, f6] at H
      refine step_on rfl (Dc (v := .agg #[uH (N' >>> 1), uL (N' >>> 1)]) if_125 F H (Calls.val (wright_c N' 1 (by omega) _) rfl (by kernel_rfl))) ?_
      rintro xv w' ⟨hx, H⟩
      exact ⟨Cs hx, (by show Sx.Own _ _ _ _; rw [show Inv.add L 4 5 = false from f5, show Inv.add L 4 6 = false from f6]; exact H)⟩
     ·intro L A w up hun hd F H
      have f5 : L 5 = false := hun
      have f6 : L 6 = false := up 6 5 rfl hun
      rw [f5, f6] at H
      refine step_on rfl (d_store (i := 3) (xs := [uH (A' * A'), uL (A' * A'), uH (A' * C' + C'), uL (A' * C' + C')]) (us := [uH (A' * A'), uL (A' * A'), uH (A' * C' + C'), uL (A' * C' + C')]) sz_316 F H rfl rfl rfl rfl rfl rfl rfl (Nat.le_of_ble_eq_true rfl) rfl) ?_
      intro xv w' H
      exact ⟨Cn, (by show Sx.Own _ _ _ _; rw [show Inv.add L 5 6 = false from f6]; exact H)⟩
     ·intro L A w up hun hd F H
      have t5 : L 5 = true := hd 5 rfl
      have f6 : L 6 = false := hun
      rw [t5, f6] at H
      refine step_on rfl (d_store (i := 2) (xs := [uH (N' >>> 1), uL (N' >>> 1)]) (us := [uH (N' >>> 1), uL (N' >>> 1)]) sz_26 F H rfl rfl rfl rfl rfl rfl rfl (Nat.le_of_ble_eq_true rfl) rfl) ?_
      intro xv w' H
      exact ⟨Cn, (by show Sx.Own _ _ _ _; rw [show Inv.add L 6 5 = true from t5]; exact H)⟩
    ·intro L A w hL F H
     have t5 : L 5 = true := hL 5 rfl
     have t6 : L 6 = true := hL 6 rfl
     rw [t5, t6] at H
     have F := F.tq [(2, pT g1 0), (3, pT g2 0), (4, pT g3 0), (5, pT ob 0), (7, .agg #[uH N', uL N']), (8, .agg #[uN (Wd.hi 0#128), uN (Wd.lo 0#128)]), (9, bF), (11, .agg #[uH N', uL N']), (12, iI (Wd.bit N' 0)), (13, bF)] rfl
     refine hK9 _ _ (wp_goto ?_)
     dsimp only [Exit.then, Exit.inBlock, Exit.jump]
     refine ⟨rfl, (N' >>> 1).toNat, hlt, ob, A' * A', A' * C' + C', N' >>> 1, OA, OC, rfl, ?_, F.to ⟨rfl, rfl, rfl, rfl, trivial⟩, H⟩
     have hr := Af.round ⟨OA, OC⟩ ⟨A', C'⟩ N'; rw [hJ] at hr; unfold Af.next at hr; rw [ho] at hr; exact hr
   ·skip
    refine Sx.seq fun K10 hK10 => Sp fun _ kk => Av F fun A F => ?_
    refine Zv F (d_build (qs := #[]) (v := .agg #[uN (Wd.hi 0#128), uN (Wd.lo 0#128)]) F rfl rfl (by kernel_rfl)) fun A F => ?_
    refine Zv F (Bn bF F rfl rfl rfl (i_eqV (eqb_ne hz))) fun A F => ?_
    refine Nl kk (condF F rfl (wp_skip (hK10 _ _ (Sx.seq fun K12 hK12 => Sp fun _ kk => Av F fun A F => ?_))))
    refine Zw F (Dc if_232 F H (wbit_c N' 0 (by omega) _)) fun A w F H => ?_
    refine Zv F (Bn bT F rfl rfl rfl (i_eq (by rw [bit_odd, ho]; rfl))) fun A F => ?_
    refine Nl kk (condT F rfl (Sx.plain ?_))
    iterate 2 (refine Av F ?_; intro A F)
    refine Zw F (Dc if_257 F H (athen_c OA OC A' C' _)) fun A w F H => ?_
    refine Zs 0 [uH (A' * OA), uL (A' * OA), uH (A' * OC + C'), uL (A' * OC + C')] sz_316 F H fun A w F H => ?_
    refine Sx.nil (hK12 _ _ (Sx.seq fun K14 hK14 => ?_))
    have F := F.tq [(2, pT g1 0), (3, pT g2 0), (4, pT g3 0), (5, pT ob 0), (7, .agg #[uH N', uL N']), (8, .agg #[uN (Wd.hi 0#128), uN (Wd.lo 0#128)]), (9, bF), (11, .agg #[uH N', uL N']), (12, iI (Wd.bit N' 0)), (13, bT), (14, .agg #[uH OA, uL OA, uH OC, uL OC]), (15, .agg #[uH A', uL A', uH C', uL C']), (16, .agg #[uH (A' * OA), uL (A' * OA), uH (A' * OC + C'), uL (A' * OC + C')])] rfl
    refine Dn F [some (.agg #[uH A', uL A', uH C', uL C']), some (.agg #[uH A', uL A', uH C', uL C']), some (.agg #[uH (A' * A'), uL (A' * A'), uH (A' * C' + C'), uL (A' * C' + C')]), some (.agg #[uH N', uL N']), some (.agg #[uH (N' >>> 1), uL (N' >>> 1)]), none, none] (fun L A w => Sx.Own w0 w [(true, ob, [uH (A' * OA), uL (A' * OA), uH (A' * OC + C'), uL (A' * OC + C')]), (true, g3, [uN (Wd.hi 0#128), uN (Wd.lo 0#128), uN (Wd.hi 0#128), uN (Wd.lo 0#128)]), (true, g2, (cond (L 6) [uH (N' >>> 1), uL (N' >>> 1)] [uH N', uL N'])), (true, g1, (cond (L 5) [uH (A' * A'), uL (A' * A'), uH (A' * C' + C'), uL (A' * C' + C')] [uH A', uL A', uH C', uL C']))] []) H.drew ?_ ?_
    ·refine ⟨?_, ?_, ?_, ?_, ?_, ?_, ?_, trivial⟩
     ·intro L A w up hun hd F H
      have f5 : L 5 = false := up 5 0 rfl hun
      have f6 : L 6 = false := up 6 0 rfl hun
      have Hj := H; rw [f5, f6] at Hj
      refine step_on rfl (Lr 3 [uH A', uL A', uH C', uL C'] rw_316 F Hj) ?_
      rintro xv w' ⟨hx, rfl⟩
      exact ⟨Cs hx, H⟩
     ·intro L A w up hun hd F H
      have f5 : L 5 = false := up 5 1 rfl hun
      have f6 : L 6 = false := up 6 1 rfl hun
      have Hj := H; rw [f5, f6] at Hj
      refine step_on rfl (Lr 3 [uH A', uL A', uH C', uL C'] rw_316 F Hj) ?_
      rintro xv w' ⟨hx, rfl⟩
      exact ⟨Cs hx, H⟩
     ·intro L A w up hun hd F H
      have f5 : L 5 = false := up 5 2 rfl hun
      have f6 : L 6 = false := up 6 2 rfl hun
      rw [f5, f6] at H
      refine step_on rfl (Dc if_257 F H (athen_c A' C' A' C' _)) ?_
      rintro xv w' ⟨hx, H⟩
      exact ⟨Cs hx, (by show Sx.Own _ _ _ _; rw [show Inv.add L 2 5 = false from f5, show Inv.add L 2 6 = false from f6]; exact H)⟩
     ·intro L A w up hun hd F H
      have f4 : L 4 = false := up 4 3 rfl hun
      have f5 : L 5 = false := up 5 4 rfl f4
      have f6 : L 6 = false := up 6 3 rfl hun
      have Hj := H; rw [f5, f6] at Hj
      refine step_on rfl (Lr 2 [uH N', uL N'] rw_26 F Hj) ?_
      rintro xv w' ⟨hx, rfl⟩
      exact ⟨Cs hx, H⟩
     ·intro L A w up hun hd F H
      have f5 : L 5 = false := up 5 4 rfl hun
      have f6 : L 6 = false := up 6 4 rfl hun
      rw [f5, f6] at H
      refine step_on rfl (Dc (v := .agg #[uH (N' >>> 1), uL (N' >>> 1)]) if_125 F H (Calls.val (wright_c N' 1 (by omega) _) rfl (by kernel_rfl))) ?_
      rintro xv w' ⟨hx, H⟩
      exact ⟨Cs hx, (by show Sx.Own _ _ _ _; rw [show Inv.add L 4 5 = false from f5, show Inv.add L 4 6 = false from f6]; exact H)⟩
     ·intro L A w up hun hd F H
      have f5 : L 5 = false := hun
      have f6 : L 6 = false := up 6 5 rfl hun
      rw [f5, f6] at H
      refine step_on rfl (d_store (i := 3) (xs := [uH (A' * A'), uL (A' * A'), uH (A' * C' + C'), uL (A' * C' + C')]) (us := [uH (A' * A'), uL (A' * A'), uH (A' * C' + C'), uL (A' * C' + C')]) sz_316 F H rfl rfl rfl rfl rfl rfl rfl (Nat.le_of_ble_eq_true rfl) rfl) ?_
      intro xv w' H
      exact ⟨Cn, (by show Sx.Own _ _ _ _; rw [show Inv.add L 5 6 = false from f6]; exact H)⟩
     ·intro L A w up hun hd F H
      have t5 : L 5 = true := hd 5 rfl
      have f6 : L 6 = false := hun
      rw [t5, f6] at H
      refine step_on rfl (d_store (i := 2) (xs := [uH (N' >>> 1), uL (N' >>> 1)]) (us := [uH (N' >>> 1), uL (N' >>> 1)]) sz_26 F H rfl rfl rfl rfl rfl rfl rfl (Nat.le_of_ble_eq_true rfl) rfl) ?_
      intro xv w' H
      exact ⟨Cn, (by show Sx.Own _ _ _ _; rw [show Inv.add L 6 5 = true from t5]; exact H)⟩
    ·intro L A w hL F H
     have t5 : L 5 = true := hL 5 rfl
     have t6 : L 6 = true := hL 6 rfl
     rw [t5, t6] at H
     have F := F.tq [(2, pT g1 0), (3, pT g2 0), (4, pT g3 0), (5, pT ob 0), (7, .agg #[uH N', uL N']), (8, .agg #[uN (Wd.hi 0#128), uN (Wd.lo 0#128)]), (9, bF), (11, .agg #[uH N', uL N']), (12, iI (Wd.bit N' 0)), (13, bT), (14, .agg #[uH OA, uL OA, uH OC, uL OC]), (15, .agg #[uH A', uL A', uH C', uL C']), (16, .agg #[uH (A' * OA), uL (A' * OA), uH (A' * OC + C'), uL (A' * OC + C')])] rfl
     refine hK14 _ _ (wp_goto ?_)
     dsimp only [Exit.then, Exit.inBlock, Exit.jump]
     refine ⟨rfl, (N' >>> 1).toNat, hlt, ob, A' * A', A' * C' + C', N' >>> 1, A' * OA, A' * OC + C', rfl, ?_, F.to ⟨rfl, rfl, rfl, rfl, trivial⟩, H⟩
     have hr := Af.round ⟨OA, OC⟩ ⟨A', C'⟩ N'; rw [hJ] at hr; unfold Af.next at hr; rw [ho] at hr; exact hr
 ·skip
  refine Sx.seq (fun Kl hKl => ?_)
  refine Sx.plain ?_
  refine Zw F (Dc if_256 F H (aone_c _)) fun A w F H => ?_
  refine Zb F (d_alloc H rfl [uN (Wd.hi 0#128), uN (Wd.lo 0#128), uN (Wd.hi 0#128), uN (Wd.lo 0#128)] zero_316) fun g4 A w F H => ?_
  refine Zs 0 [uN (Wd.hi 1#128), uN (Wd.lo 1#128), uN (Wd.hi 0#128), uN (Wd.lo 0#128)] sz_316 F H fun A w F H => ?_
  refine Sx.nil (hKl _ _ ?_)
  refine Sx.seq (fun Km hKm => ?_)
  refine wp_label (hKm _ _ ?_)
  exact first _ _ _ ⟨g4, ma, mc, n, 1#128, 0#128, rfl, Af.one_thn _, F.to ⟨rfl, rfl, rfl, rfl, trivial⟩, H⟩

section
namespace Pc
open Af
def factor : BitVec 128 := 0xda942042e4dd58b5#128
structure St where
  s : BitVec 128
  i : BitVec 128
def map (x : St) : Map := ⟨factor, x.i⟩
def step (x : St) : St := ⟨at' (map x) x.s, x.i⟩
def back (x : St) : St := ⟨at' (inverse (map x)) x.s, x.i⟩
def jump (x : St) (n : BitVec 128) : St := ⟨at' (pow (map x) n.toNat) x.s, x.i⟩
theorem odd_factor : odd factor = true := by decide +kernel
theorem back_step (x : St) : back (step x) = x := by
  show St.mk (at' (inverse (map x)) (at' (map x) x.s)) x.i = x
  rw [inverse_at _ odd_factor]
theorem jump_zero (x : St) : jump x 0#128 = x := by
  show St.mk (at' one x.s) x.i = x
  simp [at', one]
end Pc
end
def Pc.word (s : BitVec 128) : BitVec 64 := (((Wd.hi s ^^^ (Wd.hi s >>> 32)) * 15750249268501108917#64) ^^^ (((Wd.hi s ^^^ (Wd.hi s >>> 32)) * 15750249268501108917#64) >>> 48)) * (Wd.lo s ||| 1#64)
abbrev L20 (x0 : BitVec 128) : Value := .agg #[uN (Wd.hi 15750249268501108917#128), uN (Wd.lo 15750249268501108917#128), uH x0, uL x0]
abbrev L21 : Value := .agg #[uN (Wd.hi 15750249268501108917#128), uN (Wd.lo 15750249268501108917#128)]
abbrev L22 (x0 : BitVec 128) : List Value := [uN (Wd.hi 15750249268501108917#128), uN (Wd.lo 15750249268501108917#128), uH x0, uL x0]
open Sx in
theorem pmap_c (ss si : BitVec 128) (w0 : World) : Calls Tryz.prog 255 #[(L18 ss si)] w0 fun e w' => e = .returned (L20 si) ∧ Below w0.heap.size w0 w' := by
 refine En Tryz.func255 Tryz.ntmps255 fun A F => ?_
 have H := Sx.Own.start w0
 refine Sp fun _ kk => Zb F (d_box F H rfl rfl [uH ss, uL ss, uH si, uL si] rfl) fun g1 A w F H => ?_
 refine Zb F (d_alloc H rfl L3 zero_316) fun g2 A w F H => ?_
 refine Nl kk (Sx.seq fun K2 hK2 => ?_)
 have F := F.tq [(0, (L18 ss si)), (1, pT g1 0), (2, pT g2 0)] rfl
 refine Dn F [some (L21), some (pT g1 2), some (.agg #[uH si, uL si]), some (L20 si), none] (fun L A w => Sx.Own w0 w [(true, g2, (cond (L 4) (L22 si) L3)), (true, g1, [uH ss, uL ss, uH si, uL si])] []) H.drew ?_ ?_
 ·refine ⟨?_, ?_, ?_, ?_, ?_, trivial⟩
  ·intro L A w up hun hd F H
   have f4 : L 4 = false := up 4 0 rfl hun
   rw [f4] at H
   refine step_on rfl (d_call (vs := [iU 15750249268501108917]) (v := L21) if_15 F H rfl rfl (Calls.val (wofV_c 15750249268501108917#64 _) (by kernel_rfl) (by kernel_rfl))) ?_
   rintro xv w' ⟨hx, H⟩
   exact ⟨Cs hx, (by show Sx.Own _ _ _ _; rw [show Inv.add L 0 4 = false from f4]; exact H)⟩
  ·exact Sa
  ·exact SV (fun _ _ _ F H => Lr 1 [uH si, uL si] rw_26 F H)
  ·exact SV (fun _ _ _ F _ => d_build (qs := #[(0, L21), (1, .agg #[uH si, uL si])]) (v := (L20 si)) F rfl rfl (by kernel_rfl))
  ·intro L A w up hun hd F H
   have f4 : L 4 = false := hun
   rw [f4] at H
   refine step_on rfl (d_store (i := 0) (xs := (L22 si)) (us := (L22 si)) sz_316 F H rfl rfl rfl rfl rfl rfl rfl (Nat.le_of_ble_eq_true rfl) rfl) ?_
   intro xv w' H
   exact ⟨Cn, H⟩
 ·intro L A w hL F H
  have t4 : L 4 = true := hL 4 rfl
  rw [t4] at H
  have F := F.tq [(0, (L18 ss si)), (2, pT g2 0)] rfl
  refine hK2 _ _ (wp_ret ?_)
  try dsimp only [Exit.then, Exit.inBlock, Exit.jump]
  refine ret1 F Tryz.results255 (res_row (i := 0) (xs := [uN (Wd.hi 15750249268501108917#128), uN (Wd.lo 15750249268501108917#128), uH si, uL si]) rw_316 F H rfl rfl rfl rfl) ⟨?_, H.below⟩
  rfl
open Sx in
theorem pright_c (ss si : BitVec 128) (w0 : World) : Calls Tryz.prog 250 #[(L18 ss si)] w0 fun e w' => e = .returned (.bool (Af.odd si)) ∧ Below w0.heap.size w0 w' := by
 refine En Tryz.func250 Tryz.ntmps250 fun A F => ?_
 have H := Sx.Own.start w0
 refine Sp fun _ kk => Zb F (d_box F H rfl rfl [uH ss, uL ss, uH si, uL si] rfl) fun g1 A w F H => ?_
 refine Av F fun A F => ?_
 refine Nl kk (Sp fun _ kk => ?_)
 iterate 2 (refine Av F ?_; intro A F)
 refine Zw F (Dc if_232 F H (wbit_c si 0 (by omega) _)) fun A w F H => ?_
 refine Zv F (Bn (.bool (((Wd.bit si 0) : Int) == 1)) F rfl rfl rfl (i_eq rfl)) fun A F => ?_
 refine Av F fun A F => ?_
 refine Nl kk (wp_ret ?_)
 try dsimp only [Exit.then, Exit.inBlock, Exit.jump]
 refine ret1 F Tryz.results250 (res_tmp F rfl) ⟨?_, H.below⟩
 exact congrArg (fun q => Ending.returned (.bool q)) (by rw [bit_odd]; cases Af.odd si <;> rfl)
open Sx in
theorem pword_c (ss si : BitVec 128) (w0 : World) : Calls Tryz.prog 252 #[(L18 ss si)] w0 fun e w' => e = .returned (uN (Pc.word ss)) ∧ Below w0.heap.size w0 w' := by
 refine En Tryz.func252 Tryz.ntmps252 fun A F => ?_
 have H := Sx.Own.start w0
 refine Sp fun _ kk => Zb F (d_box F H rfl rfl [uH ss, uL ss, uH si, uL si] rfl) fun g1 A w F H => ?_
 refine Av F fun A F => ?_
 refine Nl kk (Sx.seq fun K2 hK2 => ?_)
 have F := F.tq [(0, (L18 ss si)), (1, pT g1 0), (2, iU 0)] rfl
 refine Dn F [some (pT g1 0), some (pT g1 0), some (uH ss), some (pT g1 0), some (pT g1 1), some (uL ss), some (uN ((Wd.lo ss) ||| 1#64)), some (uH ss), some (uN ((Wd.lo ss) ||| 1#64))] (fun L A w => Sx.Own w0 w [(true, g1, [uH ss, uL ss, uH si, uL si])] []) H.drew ?_ ?_
 ·refine ⟨?_, ?_, ?_, ?_, ?_, ?_, ?_, ?_, ?_, trivial⟩
  ·exact Sa
  ·exact Sa
  ·exact SV (fun _ _ _ F H => Ld 0 one_22 F H)
  ·exact Sa
  ·exact Sa
  ·exact SV (fun _ _ _ F H => Ld 0 one_22 F H)
  ·exact SV (fun _ _ _ F _ => Bn (uN ((Wd.lo ss) ||| 1#64)) F rfl rfl rfl (i_or64 (Wd.lo ss) 1#64))
  ·exact Sa
  ·exact Sa
 ·intro L A w hL F H
  have F := F.tq [(0, (L18 ss si)), (2, iU 0), (3, uH ss), (4, uN ((Wd.lo ss) ||| 1#64))] rfl
  refine hK2 _ _ (Sp fun _ kk => ?_)
  iterate 2 (refine Av F ?_; intro A F)
  refine Zv F (Bn (uN ((Wd.hi ss) >>> 32)) F rfl rfl rfl (i_shr64 (Wd.hi ss) 32 (by decide) _)) fun A F => ?_
  refine Zv F (Bn (uN ((Wd.hi ss) ^^^ ((Wd.hi ss) >>> 32))) F rfl rfl rfl (i_xor64 (Wd.hi ss) ((Wd.hi ss) >>> 32))) fun A F => ?_
  refine Av F fun A F => ?_
  refine Nl kk (Sp fun _ kk => Av F fun A F => ?_)
  refine Zv F (Bn (uN (((Wd.hi ss) ^^^ ((Wd.hi ss) >>> 32)) * 15750249268501108917#64)) F rfl rfl rfl (i_mul64 ((Wd.hi ss) ^^^ ((Wd.hi ss) >>> 32)) 15750249268501108917#64)) fun A F => ?_
  refine Av F fun A F => ?_
  refine Nl kk (Sp fun _ kk => ?_)
  iterate 2 (refine Av F ?_; intro A F)
  refine Zv F (Bn (uN ((((Wd.hi ss) ^^^ ((Wd.hi ss) >>> 32)) * 15750249268501108917#64) >>> 48)) F rfl rfl rfl (i_shr64 (((Wd.hi ss) ^^^ ((Wd.hi ss) >>> 32)) * 15750249268501108917#64) 48 (by decide) _)) fun A F => ?_
  refine Zv F (Bn (iU (((((Wd.hi ss) ^^^ ((Wd.hi ss) >>> 32)) * 15750249268501108917#64) ^^^ ((((Wd.hi ss) ^^^ ((Wd.hi ss) >>> 32)) * 15750249268501108917#64) >>> 48)).toNat)) F rfl rfl rfl (i_xor64 (((Wd.hi ss) ^^^ ((Wd.hi ss) >>> 32)) * 15750249268501108917#64) ((((Wd.hi ss) ^^^ ((Wd.hi ss) >>> 32)) * 15750249268501108917#64) >>> 48))) fun A F => ?_
  refine Av F fun A F => ?_
  refine Nl kk (Sp fun _ kk => ?_)
  iterate 2 (refine Av F ?_; intro A F)
  refine Zv F (Bn (iU ((((((Wd.hi ss) ^^^ ((Wd.hi ss) >>> 32)) * 15750249268501108917#64) ^^^ ((((Wd.hi ss) ^^^ ((Wd.hi ss) >>> 32)) * 15750249268501108917#64) >>> 48)) * ((Wd.lo ss) ||| 1#64)).toNat)) F rfl rfl rfl (i_mul64 ((((Wd.hi ss) ^^^ ((Wd.hi ss) >>> 32)) * 15750249268501108917#64) ^^^ ((((Wd.hi ss) ^^^ ((Wd.hi ss) >>> 32)) * 15750249268501108917#64) >>> 48)) ((Wd.lo ss) ||| 1#64))) fun A F => ?_
  refine Av F fun A F => ?_
  refine Nl kk (wp_ret ?_)
  try dsimp only [Exit.then, Exit.inBlock, Exit.jump]
  refine ret1 F Tryz.results252 (res_tmp F rfl) ⟨?_, H.below⟩
  rfl
abbrev L23 (x0 x1 : BitVec 128) : Value := .agg #[uH (15750249268501108917#128 * x0 + x1), uL (15750249268501108917#128 * x0 + x1), uH x1, uL x1]
abbrev L24 (x0 x1 : BitVec 128) : List Value := [uH (15750249268501108917#128 * x0 + x1), uL (15750249268501108917#128 * x0 + x1), uH x1, uL x1]
open Sx in
theorem pstep_c (ss si : BitVec 128) (w0 : World) : Calls Tryz.prog 251 #[(L18 ss si)] w0 fun e w' => e = .returned (.agg #[uH ((Pc.step ⟨ss, si⟩).s), uL ((Pc.step ⟨ss, si⟩).s), uH si, uL si]) ∧ Below w0.heap.size w0 w' := by
 refine En Tryz.func251 Tryz.ntmps251 fun A F => ?_
 have H := Sx.Own.start w0
 refine Sp fun _ kk => Zb F (d_box F H rfl rfl [uH ss, uL ss, uH si, uL si] rfl) fun g1 A w F H => ?_
 refine Zb F (d_alloc H rfl L3 zero_28) fun g2 A w F H => ?_
 refine Nl kk (Sx.seq fun K2 hK2 => ?_)
 have F := F.tq [(0, (L18 ss si)), (1, pT g1 0), (2, pT g2 0)] rfl
 refine Dn F [some (L18 ss si), some (L20 si), some (pT g1 0), some (.agg #[uH ss, uL ss]), some (.agg #[uH (15750249268501108917#128 * ss + si), uL (15750249268501108917#128 * ss + si)]), some (pT g1 2), some (.agg #[uH si, uL si]), some (L23 ss si), none] (fun L A w => Sx.Own w0 w [(true, g2, (cond (L 8) (L24 ss si) L3)), (true, g1, [uH ss, uL ss, uH si, uL si])] []) H.drew ?_ ?_
 ·refine ⟨?_, ?_, ?_, ?_, ?_, ?_, ?_, ?_, ?_, trivial⟩
  ·exact SV (fun _ _ _ F H => Lr 1 [uH ss, uL ss, uH si, uL si] rw_28 F H)
  ·intro L A w up hun hd F H
   have f8 : L 8 = false := up 8 1 rfl hun
   rw [f8] at H
   refine step_on rfl (Dc if_255 F H (pmap_c ss si _)) ?_
   rintro xv w' ⟨hx, H⟩
   exact ⟨Cs hx, (by show Sx.Own _ _ _ _; rw [show Inv.add L 1 8 = false from f8]; exact H)⟩
  ·exact Sa
  ·exact SV (fun _ _ _ F H => Lr 1 [uH ss, uL ss] rw_26 F H)
  ·intro L A w up hun hd F H
   have f8 : L 8 = false := up 8 4 rfl hun
   rw [f8] at H
   refine step_on rfl (Dc if_253 F H (aat_c 15750249268501108917#128 si ss _)) ?_
   rintro xv w' ⟨hx, H⟩
   exact ⟨Cs hx, (by show Sx.Own _ _ _ _; rw [show Inv.add L 4 8 = false from f8]; exact H)⟩
  ·exact Sa
  ·exact SV (fun _ _ _ F H => Lr 1 [uH si, uL si] rw_26 F H)
  ·exact SV (fun _ _ _ F _ => d_build (qs := #[(0, .agg #[uH (15750249268501108917#128 * ss + si), uL (15750249268501108917#128 * ss + si)]), (1, .agg #[uH si, uL si])]) (v := (L23 ss si)) F rfl rfl (by kernel_rfl))
  ·intro L A w up hun hd F H
   have f8 : L 8 = false := hun
   rw [f8] at H
   refine step_on rfl (d_store (i := 0) (xs := (L24 ss si)) (us := (L24 ss si)) sz_28 F H rfl rfl rfl rfl rfl rfl rfl (Nat.le_of_ble_eq_true rfl) rfl) ?_
   intro xv w' H
   exact ⟨Cn, H⟩
 ·intro L A w hL F H
  have t8 : L 8 = true := hL 8 rfl
  rw [t8] at H
  have F := F.tq [(0, (L18 ss si)), (2, pT g2 0)] rfl
  refine hK2 _ _ (wp_ret ?_)
  try dsimp only [Exit.then, Exit.inBlock, Exit.jump]
  refine ret1 F Tryz.results251 (res_row (i := 0) (xs := [uH (15750249268501108917#128 * ss + si), uL (15750249268501108917#128 * ss + si), uH si, uL si]) rw_28 F H rfl rfl rfl rfl) ⟨?_, H.below⟩
  rfl
abbrev L25 (x0 x1 x2 : BitVec 128) : Value := .agg #[uH (((Af.pow ⟨15750249268501108917#128, x0⟩ (x1).toNat).a) * x2 + ((Af.pow ⟨15750249268501108917#128, x0⟩ (x1).toNat).c)), uL (((Af.pow ⟨15750249268501108917#128, x0⟩ (x1).toNat).a) * x2 + ((Af.pow ⟨15750249268501108917#128, x0⟩ (x1).toNat).c))]
abbrev L26 (x0 x1 x2 : BitVec 128) : Value := .agg #[uH (((Af.pow ⟨15750249268501108917#128, x0⟩ (x1).toNat).a) * x2 + ((Af.pow ⟨15750249268501108917#128, x0⟩ (x1).toNat).c)), uL (((Af.pow ⟨15750249268501108917#128, x0⟩ (x1).toNat).a) * x2 + ((Af.pow ⟨15750249268501108917#128, x0⟩ (x1).toNat).c)), uH x0, uL x0]
abbrev L27 (x0 x1 x2 : BitVec 128) : List Value := [uH (((Af.pow ⟨15750249268501108917#128, x0⟩ (x1).toNat).a) * x2 + ((Af.pow ⟨15750249268501108917#128, x0⟩ (x1).toNat).c)), uL (((Af.pow ⟨15750249268501108917#128, x0⟩ (x1).toNat).a) * x2 + ((Af.pow ⟨15750249268501108917#128, x0⟩ (x1).toNat).c)), uH x0, uL x0]
open Sx in
theorem pjump_ok (ss si n : BitVec 128) (ho : Af.odd si = true) (w0 : World) : Calls Tryz.prog 249 #[(L18 ss si), .agg #[uH n, uL n]] w0 fun e w' => e = .returned (.tuple #[.agg #[uH ((Pc.jump ⟨ss, si⟩ n).s), uL ((Pc.jump ⟨ss, si⟩ n).s), uH si, uL si], iI 0]) ∧ Below w0.heap.size w0 w' := by
 refine En Tryz.func249 Tryz.ntmps249 fun A F => ?_
 have H := Sx.Own.start w0
 refine Sp fun _ kk => Zb F (d_box F H rfl rfl [uH ss, uL ss, uH si, uL si] rfl) fun g1 A w F H => ?_
 refine Zb F (d_box F H rfl rfl [uH n, uL n] rfl) fun g2 A w F H => ?_
 refine Zb F (d_alloc H rfl L3 zero_28) fun g3 A w F H => ?_
 refine Av F fun A F => ?_
 refine Nl kk (Sx.seq fun K2 hK2 => Sp fun _ kk => Av F fun A F => ?_)
 refine Zw F (Dc (v := bT) if_250 F H (Calls.val (pright_c ss si _) rfl (congrArg Value.bool (ho)))) fun A w F H => ?_
 refine Zv F (d_un (v := bF) F rfl rfl rfl) fun A F => ?_
 refine Nl kk (condF F rfl (wp_skip (hK2 _ _ (Sx.seq fun K4 hK4 => ?_))))
 have F := F.tq [(0, (L18 ss si)), (1, .agg #[uH n, uL n]), (2, pT g1 0), (3, pT g2 0), (4, pT g3 0), (6, (L18 ss si)), (7, bT), (8, bF)] rfl
 refine Dn F [some (L18 ss si), some (L20 si), some (.agg #[uH n, uL n]), some (.agg #[uH ((Af.pow ⟨15750249268501108917#128, si⟩ (n).toNat).a), uL ((Af.pow ⟨15750249268501108917#128, si⟩ (n).toNat).a), uH ((Af.pow ⟨15750249268501108917#128, si⟩ (n).toNat).c), uL ((Af.pow ⟨15750249268501108917#128, si⟩ (n).toNat).c)]), some (pT g1 0), some (.agg #[uH ss, uL ss]), some (L25 si n ss), some (pT g1 2), some (.agg #[uH si, uL si]), some (L26 si n ss), none, some (iI 0)] (fun L A w => Sx.Own w0 w [(true, g3, (cond (L 10) (L27 si n ss) L3)), (true, g2, [uH n, uL n]), (true, g1, [uH ss, uL ss, uH si, uL si])] []) H.drew ?_ ?_
 ·refine ⟨?_, ?_, ?_, ?_, ?_, ?_, ?_, ?_, ?_, ?_, ?_, ?_, trivial⟩
  ·exact SV (fun _ _ _ F H => Lr 2 [uH ss, uL ss, uH si, uL si] rw_28 F H)
  ·intro L A w up hun hd F H
   have f10 : L 10 = false := up 10 1 rfl hun
   rw [f10] at H
   refine step_on rfl (Dc if_255 F H (pmap_c ss si _)) ?_
   rintro xv w' ⟨hx, H⟩
   exact ⟨Cs hx, (by show Sx.Own _ _ _ _; rw [show Inv.add L 1 10 = false from f10]; exact H)⟩
  ·exact SV (fun _ _ _ F H => Lr 1 [uH n, uL n] rw_26 F H)
  ·intro L A w up hun hd F H
   have f10 : L 10 = false := up 10 3 rfl hun
   rw [f10] at H
   refine step_on rfl (Dc if_254 F H (apow_c 15750249268501108917#128 si n _)) ?_
   rintro xv w' ⟨hx, H⟩
   exact ⟨Cs hx, (by show Sx.Own _ _ _ _; rw [show Inv.add L 3 10 = false from f10]; exact H)⟩
  ·exact Sa
  ·exact SV (fun _ _ _ F H => Lr 2 [uH ss, uL ss] rw_26 F H)
  ·intro L A w up hun hd F H
   have f10 : L 10 = false := up 10 6 rfl hun
   rw [f10] at H
   refine step_on rfl (Dc if_253 F H (aat_c ((Af.pow ⟨15750249268501108917#128, si⟩ (n).toNat).a) ((Af.pow ⟨15750249268501108917#128, si⟩ (n).toNat).c) ss _)) ?_
   rintro xv w' ⟨hx, H⟩
   exact ⟨Cs hx, (by show Sx.Own _ _ _ _; rw [show Inv.add L 6 10 = false from f10]; exact H)⟩
  ·exact Sa
  ·exact SV (fun _ _ _ F H => Lr 2 [uH si, uL si] rw_26 F H)
  ·exact SV (fun _ _ _ F _ => d_build (qs := #[(0, (L25 si n ss)), (1, .agg #[uH si, uL si])]) (v := (L26 si n ss)) F rfl rfl (by kernel_rfl))
  ·intro L A w up hun hd F H
   have f10 : L 10 = false := hun
   rw [f10] at H
   refine step_on rfl (d_store (i := 0) (xs := (L27 si n ss)) (us := (L27 si n ss)) sz_28 F H rfl rfl rfl rfl rfl rfl rfl (Nat.le_of_ble_eq_true rfl) rfl) ?_
   intro xv w' H
   exact ⟨Cn, H⟩
  ·exact Sa
 ·intro L A w hL F H
  have t10 : L 10 = true := hL 10 rfl
  rw [t10] at H
  have F := F.tq [(0, (L18 ss si)), (1, .agg #[uH n, uL n]), (2, pT g1 0), (4, pT g3 0), (6, (L18 ss si)), (7, bT), (8, bF), (5, iI 0)] rfl
  refine hK4 _ _ (wp_ret ?_)
  try dsimp only [Exit.then, Exit.inBlock, Exit.jump]
  refine ret2 F Tryz.results249 (res_row (i := 0) (xs := [uH (((Af.pow ⟨15750249268501108917#128, si⟩ (n).toNat).a) * ss + ((Af.pow ⟨15750249268501108917#128, si⟩ (n).toNat).c)), uL (((Af.pow ⟨15750249268501108917#128, si⟩ (n).toNat).a) * ss + ((Af.pow ⟨15750249268501108917#128, si⟩ (n).toNat).c)), uH si, uL si]) rw_28 F H rfl rfl rfl rfl) (res_tmp F rfl) ⟨?_, H.below⟩
  rfl
namespace Pc
end Pc



namespace Hf
def low (x : BitVec 64) : BitVec 32 := x.setWidth 32
def top (x : BitVec 64) : BitVec 32 := (x >>> 32).setWidth 32
def pair (l h : BitVec 32) : BitVec 64 := h ++ l
theorem pair_nat (l h : BitVec 32) : (pair l h).toNat = h.toNat * 4294967296 + l.toNat := by
  simp only [pair, BitVec.toNat_append]
  rw [← Nat.shiftLeft_add_eq_or_of_lt l.isLt, Nat.shiftLeft_eq]
theorem low_nat (x : BitVec 64) : (low x).toNat = x.toNat % 4294967296 := by simp [low]
theorem top_nat (x : BitVec 64) : (top x).toNat = x.toNat / 4294967296 := by
  have := x.isLt
  simp only [top, BitVec.toNat_setWidth, BitVec.toNat_ushiftRight, Nat.shiftRight_eq_div_pow]
  omega
end Hf
theorem hlow (x : BitVec 64) : IntKind.u32.wrap (x.toNat : Int) = ((Hf.low x).toNat : Int) := by
  rw [Hf.low_nat, IntKind.wrap_u32]; omega
theorem htop (x : BitVec 64) : IntKind.u32.wrap ((x.toNat : Int) / 4294967296) = ((Hf.top x).toNat : Int) := by
  have := x.isLt
  rw [Hf.top_nat, IntKind.wrap_u32]; omega
theorem hshift (h : BitVec 32) : (h.setWidth 64 <<< 32).toNat = h.toNat * 4294967296 := by
  have hh := h.isLt
  rw [BitVec.toNat_shiftLeft, BitVec.toNat_setWidth, Nat.shiftLeft_eq, Nat.mod_eq_of_lt (a := h.toNat) (Nat.lt_trans hh (by decide))]
  exact Nat.mod_eq_of_lt (by have : h.toNat * 2 ^ 32 < 2 ^ 32 * 2 ^ 32 := Nat.mul_lt_mul_of_pos_right hh (by decide); rwa [← Nat.pow_add] at this)
theorem hpair (l h : BitVec 32) : bits .or .u64 (l.toNat : Int) ((h.toNat : Int) * 4294967296) = ((Hf.pair l h).toNat : Int) := by
  have hl := l.isLt
  have e1 : (l.setWidth 64).toNat = l.toNat := by rw [BitVec.toNat_setWidth, Nat.mod_eq_of_lt (Nat.lt_trans hl (by decide))]
  have e3 : (l.toNat : Int) = ((l.setWidth 64).toNat : Int) := by rw [e1]
  have e4 : (h.toNat : Int) * (4294967296 : Int) = ((h.setWidth 64 <<< 32).toNat : Int) := by rw [hshift]; exact (Int.natCast_mul _ _).symm
  rw [e3, e4, or64]
  refine congrArg Int.ofNat ?_
  rw [Hf.pair_nat, BitVec.toNat_or, hshift, e1, Nat.or_comm]
  have := Nat.shiftLeft_add_eq_or_of_lt hl h.toNat
  rw [Nat.shiftLeft_eq] at this
  exact this.symm
set_option maxRecDepth 100000 in
theorem hblock_c (c : BitVec 128) (w : World) : Calls Tryz.prog 271 #[.agg #[.int .u64 (Wd.hi c).toNat, .int .u64 (Wd.lo c).toNat]] w fun e w' =>
    e = .returned (.agg #[.int .u32 (Hf.low (Wd.lo c)).toNat, .int .u32 (Hf.top (Wd.lo c)).toNat, .int .u32 (Hf.low (Wd.hi c)).toNat, .int .u32 (Hf.top (Wd.hi c)).toNat]) ∧ Below w.heap.size w w' := by
  have a1 := hlow (Wd.lo c)
  have a2 := htop (Wd.lo c)
  have a3 := hlow (Wd.hi c)
  have a4 := htop (Wd.hi c)
  go_enter Tryz.func271, Tryz.ntmps271
  go_wp2
  refine bodyPost_ret (v := .agg #[.int .u32 (Hf.low (Wd.lo c)).toNat, .int .u32 (Hf.top (Wd.lo c)).toNat, .int .u32 (Hf.low (Wd.hi c)).toNat, .int .u32 (Hf.top (Wd.hi c)).toNat]) (by rw [← a1, ← a2, ← a3, ← a4]; simp [results, Tryz.results271, go_sem]) rfl ?_
  exact ⟨rfl, by (repeat' (first | (with_reducible exact Below.refl _ _) | (with_reducible assumption) | (with_reducible refine Below.alloc ?_ ?_ _) | (with_reducible refine Below.drew ?_) | (with_reducible refine below_drewN ?_ _) | (with_reducible refine Below.setCell ?_ ?_ _) | (with_reducible refine Below.trans ?_ (Below.mono (by assumption) ?_)) | go_size))⟩
theorem hpair_c (l h : BitVec 32) (w : World) : Calls Tryz.prog 272 #[.int .u32 l.toNat, .int .u32 h.toNat] w fun e w' =>
    e = .returned (.int .u64 (Hf.pair l h).toNat) ∧ w = w' := by
  have hl := l.isLt; have hh := h.isLt
  have e1 : IntKind.u64.wrap (l.toNat : Int) = (l.toNat : Int) := by rw [IntKind.wrap_u64]; omega
  have e2 : IntKind.u64.wrap (h.toNat : Int) = (h.toNat : Int) := by rw [IntKind.wrap_u64]; omega
  go_enter Tryz.func272, Tryz.ntmps272
  go_wp2
  go_ret
  exact ⟨ret_int (by rw [hpair]), rfl⟩
end Go.Proofs.YteecadoakmdibaaGreat
