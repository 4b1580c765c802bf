/- What the proof of TopJump leans on: part 5. -/
import Derived.Test.YteecadoakmdibaaGreatQ2
import Derived.Test.YteecadoakmdibaaGreatQ4
set_option maxRecDepth 100000
set_option maxHeartbeats 4000000
namespace Go.Proofs.YteecadoakmdibaaGreat
open Go Go.RowKit
open Sx in
theorem grounds_c (x : BitVec 128) (w0 : World) : Calls Tryz.prog 231 #[.agg #[uH x, uL x]] w0 fun e w' => e = .returned (iI (Bi.len x)) ∧ Below w0.heap.size w0 w' := by
 refine En Tryz.func231 Tryz.ntmps231 fun A F => ?_
 have H := Sx.Own.start w0
 refine Sp fun _ kk => Zb F (d_box F H rfl rfl [uH x, uL x] rfl) fun g1 A w F H => ?_
 refine Av F fun A F => ?_
 refine Nl kk (Sp fun _ kk => Av F fun A F => ?_)
 refine Zw F (Dc if_136 F H (wlen_c x _)) fun A w F H => ?_
 refine Av F fun A F => ?_
 refine Nl kk (wp_ret ?_)
 try dsimp only [Exit.then, Exit.inBlock, Exit.jump, Exit.noGoto]
 refine ret1 F Tryz.results231 (res_tmp F rfl) ⟨?_, H.below⟩
 rfl
open Sx in
theorem gbits_c (x : BitVec 128) (w0 : World) : Calls Tryz.prog 222 #[.agg #[uH x, uL x]] w0 fun e w' => ∃ g, e = .returned (.func (.func 230) #[] #[pT g 0]) ∧ Sx.Own w0 w' [(true, g, [uH x, uL x])] [] := by
 refine En Tryz.func222 Tryz.ntmps222 fun A F => ?_
 have H := Sx.Own.start w0
 refine Sp fun _ kk => Zb F (d_box F H rfl rfl [uH x, uL x] rfl) fun g1 A w F H => ?_
 refine Av F fun A F => ?_
 refine Nl kk (Sp fun _ kk => Zv F (d_mkFunc (fv := []) (cv := [pT g1 0]) F rfl rfl rfl) fun A F => ?_)
 refine Av F fun A F => ?_
 refine Nl kk (Wr (ret1 F Tryz.results222 (res_tmp F rfl) ?_))
 exact ⟨_, rfl, H⟩
def Gf.KpB (nb : Nat) (W W' : World) : Prop := W'.cell? ⟨nb, 0, none⟩ = W.cell? ⟨nb, 0, none⟩ ∧ W'.cell? ⟨nb, 0 + 1, none⟩ = W.cell? ⟨nb, 0 + 1, none⟩ ∧ W.heap.size ≤ W'.heap.size
open Sx in
theorem gbits_stops (nb : Nat) (x : BitVec 128) (w : World) (hc0 : w.cell? ⟨nb, 0, none⟩ = some (uH x)) (hc1 : w.cell? ⟨nb, 0 + 1, none⟩ = some (uL x)) (d : Nat) : SeqStopsK (Sx.wideAt none) d Tryz.prog 230 #[pT nb 0] (fun b : Bool => #[iI (b.toNat : Nat)]) (Gf.KpB nb) (fun xs => xs = Gf.tb x.getLsbD (Bi.len x) (Bi.len x)) (fun _ => True) (Bi.len x) w := by
 intro l J Jx W hW hJ hJx hY h0
 refine callsIn_wide.2 ?_
 have e0 : (#[.func (.yield l) #[] #[]] ++ #[pT nb 0] : Array Value) = [.func (.yield l) #[] #[], pT nb 0].toArray := rfl
 rw [e0]
 have c0 := keep_cell hW _ _ hc0
 have c1 := keep_cell hW _ _ hc1
 refine En Tryz.func230 Tryz.ntmps230 fun A F => ?_
 obtain ⟨w0, hw0⟩ : ∃ q, W = q := ⟨_, rfl⟩
 rw [hw0] at c0 c1 h0 hJ ⊢
 have H := Sx.Own.start w0
 have hln := Bi.len_le x
 refine Sp fun _ kk => Zv F (d_loadF2 rw_26 F H rfl rfl c0 c1) fun A F => ?_
 refine Zw F (Dc if_231 F H (grounds_c x _)) fun A w F H => ?_
 refine Zv F (Bn (iI (((Bi.len x) : Int) - 1)) F rfl rfl rfl (i_subS (in64 _ (by omega)))) fun A F => ?_
 refine Av F fun A F => ?_
 refine Nl kk ?_
 have c0 := keep_cell H.below _ _ c0
 have c1 := keep_cell H.below _ _ c1
 have h0 := hJ _ _ _ none h0 (Sx.grown_of_below H.below) (fun r e => by cases e)
 have hbase := H.below.size
 clear H hW
 refine wp_block (loop (fun q A w => ∃ (m : Nat), q = m ∧ m ≤ Bi.len x ∧ w0.heap.size ≤ w.heap.size ∧ J (Gf.tb x.getLsbD (Bi.len x) (Bi.len x - m)) w ∧ w.cell? ⟨nb, 0, none⟩ = some (uH x) ∧ w.cell? ⟨nb, 0 + 1, none⟩ = some (uL x) ∧ Fr 17 A [(0, .func (.yield l) #[] #[]), (1, pT nb 0), (3, iI ((m : Int) - 1))]) (Bi.len x) ⟨Bi.len x, rfl, Nat.le_refl _, hbase, by rw [Nat.sub_self]; exact h0, c0, c1, F.to ⟨rfl, rfl, rfl, trivial⟩⟩ ?_)
 clear c0 c1 h0 F hbase
 rintro q A w1 ⟨m, rfl, hm, hsz, hJs, c0, c1, F⟩
 have H := Sx.Own.start w1
 by_cases hm0 : q = 0
 ·subst hm0
  refine Sx.seq fun K1 hK1 => Sp fun _ kk => ?_
  iterate 2 (refine Av F ?_; intro A F)
  refine Nl kk (condF F rfl (wp_exit ?_))
  try dsimp only [Exit.then, Exit.jump, Exit.noGoto]
  refine exit_here ?_
  refine Sx.end0 F Tryz.results230 ⟨⟨_, rfl⟩, .inl ⟨_, rfl, ?_⟩⟩
  rw [Nat.sub_zero] at hJs; exact hJs
 ·obtain ⟨m, rfl⟩ : ∃ m, q = m + 1 := ⟨q - 1, by omega⟩
  have em : (((m + 1 : Nat) : Int) - 1) = (m : Int) := by omega
  rw [em] at F
  refine Sx.seq fun K2 hK2 => Sp fun _ kk => Av F fun A F => ?_
  refine Zv F (Bn bT F rfl rfl rfl (i_ge (decide_eq_true (by omega)))) fun A F => ?_
  refine Nl kk (condT F rfl (wp_skip (hK2 _ _ (Sx.seq fun K4 hK4 => wp_block (Sx.seq fun K5 hK5 => (wpIn_wide (n := d)).1 ?_)))))
  show Code.wpIn (Sx.wideAt none) _ _ _ _ _ _
  refine wpIn_region_lit ?_
  refine Sx.svI F (d_move F (Or.inl rfl) rfl) (wanted_none rfl _) rfl (by decide) rfl (fun A F => ?_)
  refine Sx.svI F (d_loadF2 rw_26 F H rfl rfl c0 c1) (wanted_none rfl _) rfl (by decide) rfl (fun A F => ?_)
  refine Sx.svI F (d_move F (Or.inl rfl) rfl) (wanted_none rfl _) rfl (by decide) rfl (fun A F => ?_)
  refine Sx.swI F (d_call (vs := [.agg #[uH x, uL x], iI m]) (v := iI (Wd.bit x m)) if_232 F H rfl rfl (wbit_c x m (by omega) _)) (wanted_none rfl _) rfl (by decide) rfl (fun A w2 F H => ?_)
  have hJ2 : J (Gf.tb x.getLsbD (Bi.len x) (Bi.len x - (m + 1))) w2 := hJ _ _ _ none hJs (Sx.grown_of_below H.below) (fun r e => by cases e)
  have c0 := keep_cell H.below _ _ c0
  have c1 := keep_cell H.below _ _ c1
  have hsz2 := H.below.size
  have hy := hY _ (x.getLsbD m) _ hJ2 (by rw [Gf.tb_len]; omega)
  refine Sx.yieldI (vs := [iI (Wd.bit x m : Nat)]) (R := fun v W' => (v = bT ∧ J (Gf.tb x.getLsbD (Bi.len x) (Bi.len x - (m + 1)) ++ [x.getLsbD m]) W' ∧ Gf.KpB nb w2 W') ∨ (v = bF ∧ Jx (Gf.tb x.getLsbD (Bi.len x) (Bi.len x - (m + 1)) ++ [x.getLsbD m]) W')) F rfl rfl rfl (hy.mono ?_) (wanted_none rfl _) rfl (by decide) ?_
  ·rintro e w' (⟨rfl, h1, h2⟩ | ⟨rfl, h1⟩)
   ·exact ⟨_, rfl, .inl ⟨rfl, h1, h2⟩⟩
   ·exact ⟨_, rfl, .inr ⟨rfl, h1⟩⟩
  rintro v A w3 F hR
  have htb : Gf.tb x.getLsbD (Bi.len x) (Bi.len x - (m + 1)) ++ [x.getLsbD m] = Gf.tb x.getLsbD (Bi.len x) (Bi.len x - m) := by rw [show Bi.len x - m = (Bi.len x - (m + 1)) + 1 from by omega]; show _ = _ ++ [x.getLsbD (Bi.len x - 1 - (Bi.len x - (m + 1)))]; rw [show Bi.len x - 1 - (Bi.len x - (m + 1)) = m from by omega]
  rw [htb] at hR
  rcases hR with ⟨rfl, hJ3, hk⟩ | ⟨rfl, hJ3⟩
  ·have H := Sx.Own.start w3
   refine Sx.svI F (d_un (v := bF) F rfl rfl rfl) (wanted_none rfl _) rfl (by decide) rfl (fun A F => ?_)
   refine wpListIn_nil ?_
   refine hK5 _ _ (condF F rfl (wp_skip (hK4 _ _ (Sx.plain ?_))))
   refine Av F fun A F => ?_
   refine Zv F (Bn (iI ((m : Int) - 1)) F rfl rfl rfl (i_subS (in64 _ (by omega)))) fun A F => ?_
   refine Av F fun A F => ?_
   refine Sx.nil ?_
   try dsimp only [Exit.then, Exit.noGoto]
   exact ⟨m, by omega, m, rfl, by omega, by have := hk.2.2; omega, hJ3, hk.1.trans c0, hk.2.1.trans c1, F.to ⟨rfl, rfl, rfl, trivial⟩⟩
  ·have H := Sx.Own.start w3
   refine Sx.svI F (d_un (v := bT) F rfl rfl rfl) (wanted_none rfl _) rfl (by decide) rfl (fun A F => ?_)
   refine wpListIn_nil ?_
   refine hK5 _ _ (condT F rfl (wp_ret ?_))
   try dsimp only [Exit.then, Exit.inBlock, Exit.jump, Exit.noGoto]
   exact ret0 F Tryz.results230 ⟨⟨_, rfl⟩, .inr ⟨_, trivial, hJ3⟩⟩
open Sx in
theorem gsq_1 (la : List (BitVec 64)) (ada : Option Addr) (capa : Nat) (lb : List (BitVec 64)) (adb : Option Addr) (capb : Nat) (hsa : la.length ≤ 10) (hsb : lb.length ≤ 10) (hq : Gf.val lb ≠ 0) (w0 : World) (hra : Gf.Rd w0 (.slice ada la.length capa) la) (hrb : Gf.Rd w0 (.slice adb lb.length capb) lb) : Calls Tryz.prog 223 #[.slice ada la.length capa, .slice adb lb.length capb] w0 fun e w' => ∃ v, e = .returned (v) ∧ w'.ownsRow w0.heap.size 22 1 v (Gf.ws (Gf.md (Gf.clm (Gf.val la) (Gf.val la)) (Gf.val lb))).length (Gf.cells (Gf.ws (Gf.md (Gf.clm (Gf.val la) (Gf.val la)) (Gf.val lb)))) ∧ Below w0.heap.size w0 w' := by
 have fewa := hra.few
 have fewb := hrb.few
 have hca := hra.at
 have hcb := hrb.at
 have hlm := Gf.lim_len (Gf.lim_clm (Gf.len_lim hsa) (Gf.len_lim hsa))
 refine En Tryz.func223 Tryz.ntmps223 fun A F => ?_
 have H := Sx.Own.start w0
 refine Sp fun _ kk => Av F fun A F => ?_
 refine Nl kk (Sp fun _ kk => Av F fun A F => ?_)
 refine Zr (mk := fun v => v) F (d_callR (vs := [.slice ada la.length capa]) (mk := fun v => v) if_233 F H rfl rfl (gsquare_c _ la (Gf.val la) rfl (by omega) _ ((hra).below H.below))) fun v1 A w F H => ?_
 refine Av F fun A F => ?_
 refine Zr (mk := fun v => .tuple #[v, iI 0]) F (d_callR (vs := [v1, .slice adb lb.length capb]) (mk := fun v => .tuple #[v, iI 0]) if_221 F H rfl rfl (gmod_c _ _ (Gf.ws (Gf.clm (Gf.val la) (Gf.val la))) lb (Gf.clm (Gf.val la) (Gf.val la)) (Gf.val lb) (Gf.val_ws _) rfl (by omega) (by omega) (hq) _ (Gf.Rd.row (H.row 0 _ rfl rfl) rfl rfl (by omega)) ((hrb).below H.below))) fun v2 A w F H => ?_
 iterate 5 (refine Av F ?_; intro A F)
 refine Nl kk (Sp fun _ kk => ?_)
 iterate 2 (refine Av F ?_; intro A F)
 refine Nl kk (Wr (ret1 F Tryz.results223 (res_tmp F rfl) ?_))
 exact ⟨_, rfl, H.row 0 _ rfl rfl, H.below⟩
theorem gsq_c  (va : Value) (vb : Value) (la : List (BitVec 64)) (lb : List (BitVec 64)) (Pa : Nat) (Pb : Nat) (hpa : Gf.val la = Pa) (hpb : Gf.val lb = Pb) (hsa : la.length ≤ 10) (hsb : lb.length ≤ 10) (hq : Pb ≠ 0) (w : World) (ha : Gf.Rd w va la) (hb : Gf.Rd w vb lb) : Calls Tryz.prog 223 #[va, vb] w fun e w' => ∃ v, e = .returned (v) ∧ w'.ownsRow w.heap.size 22 1 v (Gf.ws (Gf.md (Gf.clm Pa Pa) Pb)).length (Gf.cells (Gf.ws (Gf.md (Gf.clm Pa Pa) Pb))) ∧ Below w.heap.size w w' := by
 obtain ⟨ada, capa, rfl⟩ := ha.form
 subst hpa
 obtain ⟨adb, capb, rfl⟩ := hb.form
 subst hpb
 exact gsq_1  la ada capa lb adb capb hsa hsb hq w ha hb
open Sx in
theorem gpow_1 (la : List (BitVec 64)) (ada : Option Addr) (capa : Nat) (lc : List (BitVec 64)) (adc : Option Addr) (capc : Nat) (x : BitVec 128) (hsa : la.length ≤ 10) (hsc : lc.length ≤ 10) (hq : Gf.val lc ≠ 0) (w0 : World) (hra : Gf.Rd w0 (.slice ada la.length capa) la) (hrc : Gf.Rd w0 (.slice adc lc.length capc) lc) : Calls Tryz.prog 216 #[.slice ada la.length capa, .agg #[uH x, uL x], .slice adc lc.length capc] w0 fun e w' => ∃ v, e = .returned (.tuple #[v, iI 0]) ∧ w'.ownsRow w0.heap.size 22 1 v (Gf.ws (Gf.pw (Gf.val la) (Gf.val lc) x)).length (Gf.cells (Gf.ws (Gf.pw (Gf.val la) (Gf.val lc) x))) ∧ Below w0.heap.size w0 w' := by
 have fewa := hra.few
 have fewc := hrc.few
 have hca := hra.at
 have hcc := hrc.at
 have hlc : Gf.val lc < Gf.lim 10 := Gf.len_lim hsc
 have hla := Gf.lim_len (Gf.lim_md hq hlc (Gf.val la))
 have hl1 := Gf.lim_len (Gf.lim_md hq hlc (1 <<< 0))
 have hl0 := Gf.lim_len (Gf.lim_one (n := 0) (m := 1) (by decide))
 refine Sx.enterM (args := [.slice ada la.length capa, .agg #[uH x, uL x], .slice adc lc.length capc]) Tryz.func216 rfl Tryz.ntmps216 (Nat.le_of_ble_eq_true rfl) (fun A F => ?_)
 have H := Sx.Own.start w0
 refine Sp fun _ kk => Zb F (d_box F H rfl rfl [.slice ada la.length capa] rfl) fun g1 A w F H => ?_
 refine Zb F (d_box F H rfl rfl [uH x, uL x] rfl) fun g2 A w F H => ?_
 refine Zb F (d_box F H rfl rfl [.slice adc lc.length capc] rfl) fun g3 A w F H => ?_
 iterate 2 (refine Av F ?_; intro A F)
 refine Nl kk (Sp fun _ kk => ?_)
 iterate 2 (refine Av F ?_; intro A F)
 refine Zr (mk := fun v => .tuple #[v, iI 0]) F (d_callR (vs := [.slice ada la.length capa, .slice adc lc.length capc]) (mk := fun v => .tuple #[v, iI 0]) if_221 F H rfl rfl (gmod_c _ _ la lc (Gf.val la) (Gf.val lc) rfl rfl (by omega) (by omega) (hq) _ ((hra).below H.below) ((hrc).below H.below))) fun v1 A w F (H : Sx.Own w0 _ [(true, g3, [.slice adc lc.length capc]), (true, g2, [uH x, uL x]), (true, g1, [.slice ada la.length capa])] (L8 v1 la lc)) => ?_
 iterate 3 (refine Av F ?_; intro A F)
 refine Zt F (d_store (i := 2) (xs := [v1]) (us := [v1]) sz_274 F H rfl rfl rfl (by obtain ⟨_, _, hv0⟩ := Sx.len_of (k := (Gf.ws (Gf.md (Gf.val la) (Gf.val lc))).length) (v := v1) (rowEq (H.row 0 _ rfl rfl) rfl rfl rfl rfl rfl); rw [hv0]; rfl) rfl (by obtain ⟨_, _, hv0⟩ := Sx.len_of (k := (Gf.ws (Gf.md (Gf.val la) (Gf.val lc))).length) (v := v1) (rowEq (H.row 0 _ rfl rfl) rfl rfl rfl rfl rfl); rw [hv0]; rfl) rfl (Nat.le_of_ble_eq_true rfl) rfl) fun A w F (H : Sx.Own w0 _ [(true, g3, [.slice adc lc.length capc]), (true, g2, [uH x, uL x]), (true, g1, [v1])] (L8 v1 la lc)) => ?_
 refine Av F fun A F => ?_
 refine Nl kk (Sx.seq fun K3 hK3 => Sp fun _ kk => ?_)
 iterate 2 (refine Av F ?_; intro A F)
 refine Nl kk (condF F rfl (wp_skip (hK3 _ _ (Sx.seq fun K5 hK5 => ?_))))
 have F := F.tq [(0, .slice ada la.length capa), (1, .agg #[uH x, uL x]), (2, .slice adc lc.length capc), (3, pT g1 0), (4, pT g2 0), (5, pT g3 0), (6, nS), (7, iI 0), (13, .slice ada la.length capa), (14, .slice adc lc.length capc), (15, .tuple #[v1, iI 0]), (12, .tuple #[v1, iI 0]), (16, v1), (17, iI 0), (8, iI 0), (18, iI 0), (19, bF)] rfl
 refine Dn F [none, some (.slice adc lc.length capc), none, none, none, some (iI 0), none, none, some (iI 0)] (fun L A w => ∃ v2 : Value, ∃ v3 : Value, ∃ g4 : Nat, (L 0 = true → A.eval (.tmp 22) = v2) ∧ (L 2 = true → A.eval (.tmp 24) = .tuple #[v3, iI 0]) ∧ (L 3 = true → A.eval (.tmp 21) = .tuple #[v3, iI 0]) ∧ (L 4 = true → A.eval (.tmp 25) = v3) ∧ (L 6 = true → A.eval (.tmp 9) = pT g4 0) ∧ Sx.Own w0 w [(true, g3, [.slice adc lc.length capc]), (true, g2, [uH x, uL x]), (true, g1, [v1]), (L 6, g4, (cond (L 7) [v3] [nS]))] [⟨true, v1, 22, 1, (Gf.ws (Gf.md (Gf.val la) (Gf.val lc))).length, (Gf.cells (Gf.ws (Gf.md (Gf.val la) (Gf.val lc))))⟩, ⟨L 0, v2, 22, 1, (Gf.ws (1 <<< 0)).length, (Gf.cells (Gf.ws (1 <<< 0)))⟩, ⟨L 2, v3, 22, 1, (Gf.ws (Gf.md (1 <<< 0) (Gf.val lc))).length, (Gf.cells (Gf.ws (Gf.md (1 <<< 0) (Gf.val lc))))⟩]) ⟨undef, undef, 0, (fun h => by cases h), (fun h => by cases h), (fun h => by cases h), (fun h => by cases h), (fun h => by cases h), H.drew.pad [(false, 0, [nS])] rfl [⟨false, undef, 22, 1, (Gf.ws (1 <<< 0)).length, (Gf.cells (Gf.ws (1 <<< 0)))⟩, ⟨false, undef, 22, 1, (Gf.ws (Gf.md (1 <<< 0) (Gf.val lc))).length, (Gf.cells (Gf.ws (Gf.md (1 <<< 0) (Gf.val lc))))⟩] rfl⟩ ?_ ?_
 ·refine ⟨?_, ?_, ?_, ?_, ?_, ?_, ?_, ?_, ?_, trivial⟩
  ·intro L A w up hun hd F ⟨v2, v3, g4, p0, p2, p3, p4, p6, H⟩
   have f0 : L 0 = false := hun
   have f2 : L 2 = false := up 2 0 rfl hun
   have f3 : L 3 = false := up 3 2 rfl f2
   have f4 : L 4 = false := up 4 3 rfl f3
   have f7 : L 7 = false := up 7 0 rfl hun
   rw [f0, f2, f7] at H
   refine step_on rfl (d_callR_at 1 (vs := [iI 0]) (mk := fun v => v) if_217 F H rfl rfl (gx_c 0 (by omega) _)) ?_
   rintro xv w' ⟨v', hx, H⟩
   exact ⟨Cn, ⟨v', v3, g4, (fun _ => (Sx.put_same F (by decide) _).trans hx), Nf f2, Nf f3, Nf f4, Pk p6, (by show Sx.Own _ _ _ _; rw [show Inv.add L 0 2 = false from f2, show Inv.add L 0 7 = false from f7]; exact H)⟩⟩
  ·intro L A w up hun hd F ⟨v2, v3, g4, p0, p2, p3, p4, p6, H⟩
   have f2 : L 2 = false := up 2 1 rfl hun
   have f3 : L 3 = false := up 3 2 rfl f2
   have f4 : L 4 = false := up 4 3 rfl f3
   have f7 : L 7 = false := up 7 1 rfl hun
   have G := H; rw [f2, f7] at G
   refine step_on rfl (Ld 0 one_274 F G) ?_
   rintro xv w' ⟨hx, rfl⟩
   exact ⟨Cs hx, ⟨v2, v3, g4, Pk p0, Nf f2, Nf f3, Nf f4, Pk p6, H⟩⟩
  ·intro L A w up hun hd F ⟨v2, v3, g4, p0, p2, p3, p4, p6, H⟩
   have t0 : L 0 = true := hd 0 rfl
   have f2 : L 2 = false := hun
   have f3 : L 3 = false := up 3 2 rfl hun
   have f4 : L 4 = false := up 4 3 rfl f3
   have f7 : L 7 = false := up 7 2 rfl hun
   rw [t0, f2, f7] at H
   have F := Fr.add F (p0 t0)
   refine step_on rfl (d_callR_at 2 (vs := [v2, .slice adc lc.length capc]) (mk := fun v => .tuple #[v, iI 0]) if_221 F H rfl rfl (gmod_c _ _ (Gf.ws (1 <<< 0)) lc (1 <<< 0) (Gf.val lc) (Gf.val_ws _) rfl (by omega) (by omega) (hq) _ (Gf.Rd.row (H.row 1 _ rfl rfl) rfl rfl (by omega)) ((hrc).below H.below))) ?_
   rintro xv w' ⟨v', hx, H⟩
   exact ⟨Cn, ⟨v2, v', g4, Pk p0, (fun _ => (Sx.put_same F (by decide) _).trans hx), Nf f3, Nf f4, Pk p6, (by show Sx.Own _ _ _ _; rw [show Inv.add L 2 0 = true from t0, show Inv.add L 2 7 = false from f7]; exact H)⟩⟩
  ·intro L A w up hun hd F ⟨v2, v3, g4, p0, p2, p3, p4, p6, H⟩
   have t0 : L 0 = true := by
    cases hb : L 0 with
    | true => rfl
    | false =>
     have hb2 := up 2 0 rfl hb
     rw [hd 2 rfl] at hb2; cases hb2
   have t2 : L 2 = true := hd 2 rfl
   have f3 : L 3 = false := hun
   have f4 : L 4 = false := up 4 3 rfl hun
   have f7 : L 7 = false := up 7 3 rfl hun
   have G := H; rw [t0, t2, f7] at G
   have F := Fr.add F (p0 t0)
   have F := Fr.add F (p2 t2)
   refine step_on rfl (d_move F (Or.inl rfl) rfl) ?_
   rintro xv w' ⟨hx, rfl⟩
   exact ⟨Cn, ⟨v2, v3, g4, Pk p0, Pk p2, (fun _ => (Sx.put_same F (by decide) _).trans hx), Nf f4, Pk p6, H⟩⟩
  ·intro L A w up hun hd F ⟨v2, v3, g4, p0, p2, p3, p4, p6, H⟩
   have t0 : L 0 = true := by
    cases hb : L 0 with
    | true => rfl
    | false =>
     have hb2 := up 2 0 rfl hb
     have hb3 := up 3 2 rfl hb2
     rw [hd 3 rfl] at hb3; cases hb3
   have t2 : L 2 = true := by
    cases hb : L 2 with
    | true => rfl
    | false =>
     have hb3 := up 3 2 rfl hb
     rw [hd 3 rfl] at hb3; cases hb3
   have t3 : L 3 = true := hd 3 rfl
   have f4 : L 4 = false := hun
   have f7 : L 7 = false := up 7 4 rfl hun
   have G := H; rw [t0, t2, f7] at G
   have F := Fr.add F (p0 t0)
   have F := Fr.add F (p2 t2)
   have F := Fr.add F (p3 t3)
   refine step_on rfl (d_extract (v := v3) F rfl rfl rfl) ?_
   rintro xv w' ⟨hx, rfl⟩
   exact ⟨Cn, ⟨v2, v3, g4, Pk p0, Pk p2, Pk p3, (fun _ => (Sx.put_same F (by decide) _).trans hx), Pk p6, H⟩⟩
  ·intro L A w up hun hd F ⟨v2, v3, g4, p0, p2, p3, p4, p6, H⟩
   have t0 : L 0 = true := by
    cases hb : L 0 with
    | true => rfl
    | false =>
     have hb2 := up 2 0 rfl hb
     have hb3 := up 3 2 rfl hb2
     rw [hd 3 rfl] at hb3; cases hb3
   have t2 : L 2 = true := by
    cases hb : L 2 with
    | true => rfl
    | false =>
     have hb3 := up 3 2 rfl hb
     rw [hd 3 rfl] at hb3; cases hb3
   have t3 : L 3 = true := hd 3 rfl
   have G := H; rw [t0, t2] at G
   have F := Fr.add F (p0 t0)
   have F := Fr.add F (p2 t2)
   have F := Fr.add F (p3 t3)
   refine step_on rfl (d_extract (v := iI 0) F rfl rfl rfl) ?_
   rintro xv w' ⟨hx, rfl⟩
   exact ⟨Cs hx, ⟨v2, v3, g4, Pk p0, Pk p2, Pk p3, Pk p4, Pk p6, H⟩⟩
  ·intro L A w up hun hd F ⟨v2, v3, g4, p0, p2, p3, p4, p6, H⟩
   have f6 : L 6 = false := hun
   have f7 : L 7 = false := up 7 6 rfl hun
   rw [f6, f7] at H
   refine step_on rfl (d_alloc_at H rfl 3 [nS] zero_274) ?_
   rintro xv w' ⟨g', hx, H⟩
   exact ⟨Cn, ⟨v2, v3, g', Pk p0, Pk p2, Pk p3, Pk p4, (fun _ => (Sx.put_same F (by decide) _).trans hx), (by show Sx.Own _ _ _ _; rw [show Inv.add L 6 7 = false from f7]; exact H)⟩⟩
  ·intro L A w up hun hd F ⟨v2, v3, g4, p0, p2, p3, p4, p6, H⟩
   have t0 : L 0 = true := hd 0 rfl
   have t2 : L 2 = true := hd 2 rfl
   have t3 : L 3 = true := hd 3 rfl
   have t4 : L 4 = true := hd 4 rfl
   have t6 : L 6 = true := hd 6 rfl
   have f7 : L 7 = false := hun
   rw [t0, t2, t6, f7] at H
   have F := Fr.add F (p0 t0)
   have F := Fr.add F (p2 t2)
   have F := Fr.add F (p3 t3)
   have F := Fr.add F (p4 t4)
   have F := Fr.add F (p6 t6)
   refine step_on rfl (d_store (i := 3) (xs := [v3]) (us := [v3]) sz_274 F H rfl rfl rfl (by obtain ⟨_, _, hv0⟩ := Sx.len_of (k := (Gf.ws (Gf.md (1 <<< 0) (Gf.val lc))).length) (v := v3) (rowEq (H.row 2 _ rfl rfl) rfl rfl rfl rfl rfl); rw [hv0]; rfl) rfl (by obtain ⟨_, _, hv0⟩ := Sx.len_of (k := (Gf.ws (Gf.md (1 <<< 0) (Gf.val lc))).length) (v := v3) (rowEq (H.row 2 _ rfl rfl) rfl rfl rfl rfl rfl); rw [hv0]; rfl) rfl (Nat.le_of_ble_eq_true rfl) rfl) ?_
   intro xv w' H
   exact ⟨Cn, ⟨v2, v3, g4, p0, p2, p3, p4, p6, (by show Sx.Own _ _ _ _; rw [show Inv.add L 7 0 = true from t0, show Inv.add L 7 2 = true from t2, show Inv.add L 7 6 = true from t6]; exact H)⟩⟩
  ·intro L A w up hun hd F ⟨v2, v3, g4, p0, p2, p3, p4, p6, H⟩
   have t0 : L 0 = true := hd 0 rfl
   have t2 : L 2 = true := hd 2 rfl
   have t3 : L 3 = true := hd 3 rfl
   have t4 : L 4 = true := hd 4 rfl
   have t6 : L 6 = true := hd 6 rfl
   have t7 : L 7 = true := hd 7 rfl
   have G := H; rw [t0, t2, t6, t7] at G
   have F := Fr.add F (p0 t0)
   have F := Fr.add F (p2 t2)
   have F := Fr.add F (p3 t3)
   have F := Fr.add F (p4 t4)
   have F := Fr.add F (p6 t6)
   refine step_on rfl (d_move F (Or.inr rfl) rfl) ?_
   rintro xv w' ⟨hx, rfl⟩
   exact ⟨Cs hx, ⟨v2, v3, g4, Pk p0, Pk p2, Pk p3, Pk p4, Pk p6, H⟩⟩
 ·intro L A w hL F ⟨v2, v3, g4, p0, p2, p3, p4, p6, H⟩
  have t0 : L 0 = true := hL 0 rfl
  have t2 : L 2 = true := hL 2 rfl
  have t3 : L 3 = true := hL 3 rfl
  have t4 : L 4 = true := hL 4 rfl
  have t6 : L 6 = true := hL 6 rfl
  have t7 : L 7 = true := hL 7 rfl
  rw [t0, t2, t6, t7] at H
  have F := Fr.add F (p0 t0)
  have F := Fr.add F (p2 t2)
  have F := Fr.add F (p3 t3)
  have F := Fr.add F (p4 t4)
  have F := Fr.add F (p6 t6)
  have F := F.tq [(3, pT g1 0), (4, pT g2 0), (5, pT g3 0), (6, nS), (7, iI 0), (9, pT g4 0)] rfl
  refine hK5 _ _ (Sx.seq fun K6 hK6 => Sp fun _ kk => Av F fun A F => ?_)
  refine Zg (mk := fun g => .func (.func 230) #[] #[pT g 0]) F (d_callO (vs := [.agg #[uH x, uL x]]) if_222 F rfl rfl (Sx.bb (mk := fun g => .func (.func 230) #[] #[pT g 0]) H (gbits_c x _))) fun g5 A w F (H : Sx.Own w0 _ [(true, g5, [uH x, uL x]), (true, g3, [.slice adc lc.length capc]), (true, g2, [uH x, uL x]), (true, g1, [v1]), (true, g4, [v3])] [⟨true, v1, 22, 1, (Gf.ws (Gf.md (Gf.val la) (Gf.val lc))).length, (Gf.cells (Gf.ws (Gf.md (Gf.val la) (Gf.val lc))))⟩, ⟨true, v2, 22, 1, (Gf.ws (1 <<< 0)).length, (Gf.cells (Gf.ws (1 <<< 0)))⟩, ⟨true, v3, 22, 1, (Gf.ws (Gf.md (1 <<< 0) (Gf.val lc))).length, (Gf.cells (Gf.ws (Gf.md (1 <<< 0) (Gf.val lc))))⟩]) => ?_
  refine Nl kk (wp_block ?_)
  have H : Sx.Own w0 w [(true, g1, [v1]), (true, g2, [uH x, uL x]), (true, g3, [.slice adc lc.length capc]), (true, g4, [v3]), (true, g5, [uH x, uL x])] [⟨true, v1, 22, 1, (Gf.ws (Gf.md (Gf.val la) (Gf.val lc))).length, (Gf.cells (Gf.ws (Gf.md (Gf.val la) (Gf.val lc))))⟩, ⟨true, v3, 22, 1, (Gf.ws (Gf.pws (Gf.md (Gf.val la) (Gf.val lc)) (Gf.val lc) [])).length, (Gf.cells (Gf.ws (Gf.pws (Gf.md (Gf.val la) (Gf.val lc)) (Gf.val lc) [])))⟩] := H.to' [3, 2, 1, 4, 0] [0, 2] (by decide) (by decide) rfl rfl
  have F := F.to (kv' := [(3, pT g1 0), (4, pT g2 0), (5, pT g3 0), (9, pT g4 0), (28, .func (.func 230) #[] #[pT g5 0])]) ⟨rfl, rfl, rfl, rfl, rfl, trivial⟩
  obtain ⟨w1, hw1⟩ : ∃ q, w = q := ⟨_, rfl⟩
  rw [hw1] at H ⊢
  have hbx : ∀ b ∈ ([(true, g1, [v1]), (true, g2, [uH x, uL x]), (true, g3, [.slice adc lc.length capc]), (true, g4, [v3]), (true, g5, [uH x, uL x])] : List Bx), b.2.1 < w1.heap.size ∧ w0.heap.size ≤ b.2.1 := by
   intro b hb
   obtain ⟨i, hi⟩ := List.getElem?_of_mem hb
   have hon : b.1 = true := by revert hb; simp only [List.mem_cons, List.not_mem_nil, or_false]; rintro (rfl | rfl | rfl | rfl | rfl) <;> rfl
   obtain ⟨on, g, vs⟩ := b
   cases hon
   have := H.box i g vs hi
   exact ⟨this.2.2, this.2.1⟩
  have hnb := H.box 4 g5 _ rfl
  have c0 := (hnb.1 0 _ rfl).1
  have c1 := (hnb.1 1 _ rfl).1
  have hb0 := H.below.size
  refine (wpIn_wide (n := 6)).1 ?_
  show Code.wpIn (Sx.wideAt none) _ _ _ _ _ _
  refine wpIn_rangeFunc_ownH (α := Bool) rfl (by decide) (gf := 230) (lb := #[pT g5 0]) (F.get 28 _ rfl) trivial if_230 (gbits_stops g5 x w1 c0 c1 5) ?kt ?kb (Below.refl _ _) (fun _ => rfl)
   (fun pre W => ∃ ov : Value, Sx.Own w0 W [(true, g1, [v1]), (true, g2, [uH x, uL x]), (true, g3, [.slice adc lc.length capc]), (true, g4, [ov]), (true, g5, [uH x, uL x])] [⟨true, v1, 22, 1, (Gf.ws (Gf.md (Gf.val la) (Gf.val lc))).length, (Gf.cells (Gf.ws (Gf.md (Gf.val la) (Gf.val lc))))⟩, ⟨true, ov, 22, 1, (Gf.ws (Gf.pws (Gf.md (Gf.val la) (Gf.val lc)) (Gf.val lc) pre)).length, (Gf.cells (Gf.ws (Gf.pws (Gf.md (Gf.val la) (Gf.val lc)) (Gf.val lc) pre)))⟩]) (fun _ _ _ => False) ?hI (fun _ _ _ _ _ h _ _ => h.elim) ⟨v3, H⟩ (fun (bt : Bool) a' _ => Fr 43 a' ((11, iI (bt.toNat : Nat)) :: [(3, pT g1 0), (4, pT g2 0), (5, pT g3 0), (9, pT g4 0), (28, .func (.func 230) #[] #[pT g5 0])])) (fun _ _ _ _ _ _ h _ _ => h) ?assign ?body ?done ?stop
  case kt => exact fun h k => ⟨k.1.trans h.1, k.2.1.trans h.2.1, Nat.le_trans h.2.2 k.2.2⟩
  case kb => exact fun W l o o' hl _ _ _ => ⟨World.cell?_of_block (World.putObj_heap_other (show g5 ≠ l by have := hnb.2.2; omega)), World.cell?_of_block (World.putObj_heap_other (show g5 ≠ l by have := hnb.2.2; omega)), by simp⟩
  case hI => exact fun s W W' row ⟨ov, h⟩ hg hr => ⟨ov, h.from_ hg hr hb0 (fun _ => rfl)⟩
  case stop => exact fun D c pre W _ _ h _ => h.elim
  case assign =>
   intro l pre bt W K hi hK
   show Code.wpIn (Sx.wideAt (some l)) _ _ _ _ _ _
   refine Sx.plainI (fun ⟨_, _, h⟩ => h) rfl ?_
   have F := F.setp (d := 29) (by decide) (iI (bt.toNat : Nat))
   have hz : (#[29].zip #[Value.int .i64 (bt.toNat : Nat)]) = [(29, Value.int .i64 (bt.toNat : Nat))].toArray := by simp
   rw [hz, List.foldl_toArray, List.foldl_cons, List.foldl_nil]
   dsimp only
   refine Av F fun A F => ?_
   refine Sx.nil ?_
   exact hK _ _ (KeepsFrom.refl _ _) ⟨rfl, rfl, Nat.le_refl _⟩ hi (F.to ⟨rfl, rfl, rfl, rfl, rfl, rfl, trivial⟩)
  case body =>
   rintro l pre bt a' W hl ⟨r, hr⟩ ⟨ov, HW⟩ F hlt
   show Code.wpIn (Sx.wideAt (some l)) _ _ _ _ _ _
   have hWb := HW.below
   have hbne : ∀ b ∈ ([(true, g1, [v1]), (true, g2, [uH x, uL x]), (true, g3, [.slice adc lc.length capc]), (true, g4, [ov]), (true, g5, [uH x, uL x])] : List Bx), b.2.1 < w1.heap.size := by
    intro b hb
    simp only [List.mem_cons, List.not_mem_nil, or_false] at hb hbx
    rcases hb with rfl | rfl | rfl | rfl | rfl
    ·exact (hbx _ (.inl rfl)).1
    ·exact (hbx _ (.inr (.inl rfl))).1
    ·exact (hbx _ (.inr (.inr (.inl rfl)))).1
    ·exact (hbx (true, g4, [v3]) (.inr (.inr (.inr (.inl rfl))))).1
    ·exact (hbx _ (.inr (.inr (.inr (.inr rfl))))).1
   have hrb : ∀ v : Value, (∃ (j : Nat) (r : Rx), ([⟨true, v1, 22, 1, (Gf.ws (Gf.md (Gf.val la) (Gf.val lc))).length, (Gf.cells (Gf.ws (Gf.md (Gf.val la) (Gf.val lc))))⟩, ⟨true, ov, 22, 1, (Gf.ws (Gf.pws (Gf.md (Gf.val la) (Gf.val lc)) (Gf.val lc) pre)).length, (Gf.cells (Gf.ws (Gf.pws (Gf.md (Gf.val la) (Gf.val lc)) (Gf.val lc) pre)))⟩] : List Rx)[j]? = some r ∧ r.on = true ∧ r.v = v) → ∀ b ∈ ([(true, g1, [v1]), (true, g2, [uH x, uL x]), (true, g3, [.slice adc lc.length capc]), (true, g4, [ov]), (true, g5, [uH x, uL x])] : List Bx), v.ownBlock ≠ some b.2.1 := by
    rintro v ⟨j, r, hj, hon, rfl⟩ b hb e
    obtain ⟨i, hi⟩ := List.getElem?_of_mem hb
    have hon' : b.1 = true := by revert hb; simp only [List.mem_cons, List.not_mem_nil, or_false]; rintro (rfl | rfl | rfl | rfl | rfl) <;> rfl
    obtain ⟨on, g, vs⟩ := b
    cases hon'
    exact HW.rb i j g vs r hi hj hon e
   have hpl := Gf.pws_lim hq hlc (Gf.md (Gf.val la) (Gf.val lc)) pre
   have hlo := Gf.lim_len hpl
   have hla' := Gf.lim_len (Gf.lim_md hq hlc (Gf.val la))
   have hRA : Gf.Rd W v1 (Gf.ws (Gf.md (Gf.val la) (Gf.val lc))) := Gf.Rd.row (HW.row 0 _ rfl rfl) rfl rfl (by omega)
   have hRO : Gf.Rd W ov (Gf.ws (Gf.pws (Gf.md (Gf.val la) (Gf.val lc)) (Gf.val lc) pre)) := Gf.Rd.row (HW.row 1 _ rfl rfl) rfl rfl (by omega)
   have H := HW.lay
   have hp1 := Gf.lim_clm hpl hpl
   have hpm := Gf.lim_len (Gf.lim_md hq hlc (Gf.clm (Gf.pws (Gf.md (Gf.val la) (Gf.val lc)) (Gf.val lc) pre) (Gf.pws (Gf.md (Gf.val la) (Gf.val lc)) (Gf.val lc) pre)))
   refine wpIn_block ?_
   refine wpIn_seq_k (fun K8 hK8 => ?_)
   refine Sx.plainI (fun ⟨_, _, h⟩ => h) rfl ?_
   iterate 2 (refine Av F ?_; intro A F)
   refine Zr (mk := fun v => v) F (d_callR (vs := [ov, .slice adc lc.length capc]) (mk := fun v => v) if_223 F H rfl rfl (gsq_c _ _ (Gf.ws (Gf.pws (Gf.md (Gf.val la) (Gf.val lc)) (Gf.val lc) pre)) lc (Gf.pws (Gf.md (Gf.val la) (Gf.val lc)) (Gf.val lc) pre) (Gf.val lc) (Gf.val_ws _) rfl (by omega) (by omega) (hq) _ (hRO.laid H hWb (hrb _ ⟨1, _, rfl, rfl, rfl⟩)) ((hrc).below H.below))) fun v4 A w F (H : Sx.Own w0 _ [(true, g1, [v1]), (true, g2, [uH x, uL x]), (true, g3, [.slice adc lc.length capc]), (true, g4, [ov]), (true, g5, [uH x, uL x])] [⟨true, v4, 22, 1, (Gf.ws (Gf.md (Gf.clm (Gf.pws (Gf.md (Gf.val la) (Gf.val lc)) (Gf.val lc) pre) (Gf.pws (Gf.md (Gf.val la) (Gf.val lc)) (Gf.val lc) pre)) (Gf.val lc))).length, (Gf.cells (Gf.ws (Gf.md (Gf.clm (Gf.pws (Gf.md (Gf.val la) (Gf.val lc)) (Gf.val lc) pre) (Gf.pws (Gf.md (Gf.val la) (Gf.val lc)) (Gf.val lc) pre)) (Gf.val lc))))⟩] (Sx.beside w0 W [(true, g1, [v1]), (true, g2, [uH x, uL x]), (true, g3, [.slice adc lc.length capc]), (true, g4, [ov]), (true, g5, [uH x, uL x])])) => ?_
   refine Zt F (d_store (i := 3) (xs := [v4]) (us := [v4]) sz_274 F H rfl rfl rfl (by obtain ⟨_, _, hv0⟩ := Sx.len_of (k := (Gf.ws (Gf.md (Gf.clm (Gf.pws (Gf.md (Gf.val la) (Gf.val lc)) (Gf.val lc) pre) (Gf.pws (Gf.md (Gf.val la) (Gf.val lc)) (Gf.val lc) pre)) (Gf.val lc))).length) (v := v4) (rowEq (H.row 0 _ rfl rfl) rfl rfl rfl rfl rfl); rw [hv0]; rfl) rfl (by obtain ⟨_, _, hv0⟩ := Sx.len_of (k := (Gf.ws (Gf.md (Gf.clm (Gf.pws (Gf.md (Gf.val la) (Gf.val lc)) (Gf.val lc) pre) (Gf.pws (Gf.md (Gf.val la) (Gf.val lc)) (Gf.val lc) pre)) (Gf.val lc))).length) (v := v4) (rowEq (H.row 0 _ rfl rfl) rfl rfl rfl rfl rfl); rw [hv0]; rfl) rfl (Nat.le_of_ble_eq_true rfl) rfl) fun A w F (H : Sx.Own w0 _ [(true, g1, [v1]), (true, g2, [uH x, uL x]), (true, g3, [.slice adc lc.length capc]), (true, g4, [v4]), (true, g5, [uH x, uL x])] [⟨true, v4, 22, 1, (Gf.ws (Gf.md (Gf.clm (Gf.pws (Gf.md (Gf.val la) (Gf.val lc)) (Gf.val lc) pre) (Gf.pws (Gf.md (Gf.val la) (Gf.val lc)) (Gf.val lc) pre)) (Gf.val lc))).length, (Gf.cells (Gf.ws (Gf.md (Gf.clm (Gf.pws (Gf.md (Gf.val la) (Gf.val lc)) (Gf.val lc) pre) (Gf.pws (Gf.md (Gf.val la) (Gf.val lc)) (Gf.val lc) pre)) (Gf.val lc))))⟩] (Sx.beside w0 W [(true, g1, [v1]), (true, g2, [uH x, uL x]), (true, g3, [.slice adc lc.length capc]), (true, g4, [ov]), (true, g5, [uH x, uL x])])) => ?_
   refine Sx.nil (hK8 _ _ ?_)
   cases bt
   ·skip
    refine wpIn_seq_k (fun K9 hK9 => ?_)
    refine Sx.plainI (fun ⟨_, _, h⟩ => h) rfl ?_
    refine Av F fun A F => ?_
    refine Zv F (Bn bF F rfl rfl rfl (i_eq rfl)) fun A F => ?_
    refine Sx.nil (hK9 _ _ (wpIn_cond_false (F.ev rfl) ?_))
    refine wpIn_skip ?_
    try dsimp only [Exit.then, Exit.inBlock, Exit.noGoto]
    have hgr := H.grew hr (by omega) (fun b hb => Nat.lt_of_lt_of_le (hbne b hb) hl)
    have h4 := (H.box 4 g5 _ rfl).1
    have h4' := (HW.box 4 g5 _ rfl).1
    have hst := Gf.pws_snoc (Gf.md (Gf.val la) (Gf.val lc)) (Gf.val lc) pre false
    unfold Gf.pwS at hst
    rw [if_neg (by decide)] at hst
    refine ⟨H.keepsLaid hgr hb0 hbne, ⟨((h4 0 _ rfl).1).trans ((h4' 0 _ rfl).1).symm, ((h4 1 _ rfl).1).trans ((h4' 1 _ rfl).1).symm, hgr⟩, v4, ?_⟩
    have H2 := H.restore hWb _ (HW.row 0 _ rfl rfl) (hrb _ ⟨0, _, rfl, rfl, rfl⟩)
    rw [hst]
    exact H2.to' [0, 1, 2, 3, 4] [0, 1] (by decide) (by decide) rfl rfl
   ·skip
    refine wpIn_seq_k (fun K10 hK10 => ?_)
    refine Sx.plainI (fun ⟨_, _, h⟩ => h) rfl ?_
    refine Av F fun A F => ?_
    refine Zv F (Bn bT F rfl rfl rfl (i_eq rfl)) fun A F => ?_
    refine Sx.nil (hK10 _ _ (wpIn_cond_true (F.ev rfl) ?_))
    refine Sx.plainI (fun ⟨_, _, h⟩ => h) rfl ?_
    iterate 3 (refine Av F ?_; intro A F)
    refine Zr (mk := fun v => .tuple #[v, iI 0]) F (d_callR (vs := [v4, v1, .slice adc lc.length capc]) (mk := fun v => .tuple #[v, iI 0]) if_224 F H rfl rfl (gmulmod_c _ _ _ (Gf.ws (Gf.md (Gf.clm (Gf.pws (Gf.md (Gf.val la) (Gf.val lc)) (Gf.val lc) pre) (Gf.pws (Gf.md (Gf.val la) (Gf.val lc)) (Gf.val lc) pre)) (Gf.val lc))) (Gf.ws (Gf.md (Gf.val la) (Gf.val lc))) lc (Gf.md (Gf.clm (Gf.pws (Gf.md (Gf.val la) (Gf.val lc)) (Gf.val lc) pre) (Gf.pws (Gf.md (Gf.val la) (Gf.val lc)) (Gf.val lc) pre)) (Gf.val lc)) (Gf.md (Gf.val la) (Gf.val lc)) (Gf.val lc) (Gf.val_ws _) (Gf.val_ws _) rfl (by omega) (by omega) (by omega) (hq) _ (Gf.Rd.row (H.row 0 _ rfl rfl) rfl rfl (by omega)) (hRA.laid H hWb (hrb _ ⟨0, _, rfl, rfl, rfl⟩)) ((hrc).below H.below))) fun v5 A w F (H : Sx.Own w0 _ [(true, g1, [v1]), (true, g2, [uH x, uL x]), (true, g3, [.slice adc lc.length capc]), (true, g4, [v4]), (true, g5, [uH x, uL x])] [⟨true, v5, 22, 1, (Gf.ws (Gf.md (Gf.clm (Gf.md (Gf.clm (Gf.pws (Gf.md (Gf.val la) (Gf.val lc)) (Gf.val lc) pre) (Gf.pws (Gf.md (Gf.val la) (Gf.val lc)) (Gf.val lc) pre)) (Gf.val lc)) (Gf.md (Gf.val la) (Gf.val lc))) (Gf.val lc))).length, (Gf.cells (Gf.ws (Gf.md (Gf.clm (Gf.md (Gf.clm (Gf.pws (Gf.md (Gf.val la) (Gf.val lc)) (Gf.val lc) pre) (Gf.pws (Gf.md (Gf.val la) (Gf.val lc)) (Gf.val lc) pre)) (Gf.val lc)) (Gf.md (Gf.val la) (Gf.val lc))) (Gf.val lc))))⟩, ⟨true, v4, 22, 1, (Gf.ws (Gf.md (Gf.clm (Gf.pws (Gf.md (Gf.val la) (Gf.val lc)) (Gf.val lc) pre) (Gf.pws (Gf.md (Gf.val la) (Gf.val lc)) (Gf.val lc) pre)) (Gf.val lc))).length, (Gf.cells (Gf.ws (Gf.md (Gf.clm (Gf.pws (Gf.md (Gf.val la) (Gf.val lc)) (Gf.val lc) pre) (Gf.pws (Gf.md (Gf.val la) (Gf.val lc)) (Gf.val lc) pre)) (Gf.val lc))))⟩] (Sx.beside w0 W [(true, g1, [v1]), (true, g2, [uH x, uL x]), (true, g3, [.slice adc lc.length capc]), (true, g4, [ov]), (true, g5, [uH x, uL x])])) => ?_
    iterate 3 (refine Av F ?_; intro A F)
    refine Zt F (d_store (i := 3) (xs := [v5]) (us := [v5]) sz_274 F H rfl rfl rfl (by obtain ⟨_, _, hv0⟩ := Sx.len_of (k := (Gf.ws (Gf.md (Gf.clm (Gf.md (Gf.clm (Gf.pws (Gf.md (Gf.val la) (Gf.val lc)) (Gf.val lc) pre) (Gf.pws (Gf.md (Gf.val la) (Gf.val lc)) (Gf.val lc) pre)) (Gf.val lc)) (Gf.md (Gf.val la) (Gf.val lc))) (Gf.val lc))).length) (v := v5) (rowEq (H.row 0 _ rfl rfl) rfl rfl rfl rfl rfl); rw [hv0]; rfl) rfl (by obtain ⟨_, _, hv0⟩ := Sx.len_of (k := (Gf.ws (Gf.md (Gf.clm (Gf.md (Gf.clm (Gf.pws (Gf.md (Gf.val la) (Gf.val lc)) (Gf.val lc) pre) (Gf.pws (Gf.md (Gf.val la) (Gf.val lc)) (Gf.val lc) pre)) (Gf.val lc)) (Gf.md (Gf.val la) (Gf.val lc))) (Gf.val lc))).length) (v := v5) (rowEq (H.row 0 _ rfl rfl) rfl rfl rfl rfl rfl); rw [hv0]; rfl) rfl (Nat.le_of_ble_eq_true rfl) rfl) fun A w F (H : Sx.Own w0 _ [(true, g1, [v1]), (true, g2, [uH x, uL x]), (true, g3, [.slice adc lc.length capc]), (true, g4, [v5]), (true, g5, [uH x, uL x])] [⟨true, v5, 22, 1, (Gf.ws (Gf.md (Gf.clm (Gf.md (Gf.clm (Gf.pws (Gf.md (Gf.val la) (Gf.val lc)) (Gf.val lc) pre) (Gf.pws (Gf.md (Gf.val la) (Gf.val lc)) (Gf.val lc) pre)) (Gf.val lc)) (Gf.md (Gf.val la) (Gf.val lc))) (Gf.val lc))).length, (Gf.cells (Gf.ws (Gf.md (Gf.clm (Gf.md (Gf.clm (Gf.pws (Gf.md (Gf.val la) (Gf.val lc)) (Gf.val lc) pre) (Gf.pws (Gf.md (Gf.val la) (Gf.val lc)) (Gf.val lc) pre)) (Gf.val lc)) (Gf.md (Gf.val la) (Gf.val lc))) (Gf.val lc))))⟩, ⟨true, v4, 22, 1, (Gf.ws (Gf.md (Gf.clm (Gf.pws (Gf.md (Gf.val la) (Gf.val lc)) (Gf.val lc) pre) (Gf.pws (Gf.md (Gf.val la) (Gf.val lc)) (Gf.val lc) pre)) (Gf.val lc))).length, (Gf.cells (Gf.ws (Gf.md (Gf.clm (Gf.pws (Gf.md (Gf.val la) (Gf.val lc)) (Gf.val lc) pre) (Gf.pws (Gf.md (Gf.val la) (Gf.val lc)) (Gf.val lc) pre)) (Gf.val lc))))⟩] (Sx.beside w0 W [(true, g1, [v1]), (true, g2, [uH x, uL x]), (true, g3, [.slice adc lc.length capc]), (true, g4, [ov]), (true, g5, [uH x, uL x])])) => ?_
    refine Sx.nil ?_
    try dsimp only [Exit.then, Exit.inBlock, Exit.noGoto]
    have hgr := H.grew hr (by omega) (fun b hb => Nat.lt_of_lt_of_le (hbne b hb) hl)
    have h4 := (H.box 4 g5 _ rfl).1
    have h4' := (HW.box 4 g5 _ rfl).1
    have hst := Gf.pws_snoc (Gf.md (Gf.val la) (Gf.val lc)) (Gf.val lc) pre true
    unfold Gf.pwS at hst
    rw [if_pos rfl] at hst
    refine ⟨H.keepsLaid hgr hb0 hbne, ⟨((h4 0 _ rfl).1).trans ((h4' 0 _ rfl).1).symm, ((h4 1 _ rfl).1).trans ((h4' 1 _ rfl).1).symm, hgr⟩, v5, ?_⟩
    have H2 := H.restore hWb _ (HW.row 0 _ rfl rfl) (hrb _ ⟨0, _, rfl, rfl, rfl⟩)
    rw [hst]
    exact H2.to' [0, 1, 2, 3, 4] [0, 1] (by decide) (by decide) rfl rfl
  case done =>
   rintro D ys W hD rfl ⟨ov, H⟩ hK
   rw [F.defers]
   refine hK6 _ _ (Sp fun _ kk => Sx.svD F (d_load1 (i := 3) (v := ov) one_274 F H rfl rfl rfl rfl) (wanted_none rfl _) rfl (by decide) (fun A F => ?_))
   refine Sx.svD F (d_move F (Or.inr rfl) rfl) (wanted_none rfl _) rfl (by decide) (fun A F => ?_)
   refine Sx.svD F (d_move F (Or.inr rfl) rfl) (wanted_none rfl _) rfl (by decide) (fun A F => ?_)
   refine Nl kk (wp_ret ?_)
   try dsimp only [Exit.then, Exit.inBlock, Exit.jump, Exit.noGoto]
   have H := H.putD (o' := .deferred none) hK rfl (by omega)
   exact Sx.ret2M F Tryz.results216 hK (res_tmp (v := ov) F rfl) (res_tmp (v := iI 0) F rfl) ⟨_, rfl, H.row 1 _ rfl rfl, H.below⟩
theorem gpow_c (va vc : Value) (la lc : List (BitVec 64)) (Pa Pc : Nat) (hpa : Gf.val la = Pa) (hpc : Gf.val lc = Pc) (x : BitVec 128) (hsa : la.length ≤ 10) (hsc : lc.length ≤ 10) (hq : Pc ≠ 0) (w : World) (ha : Gf.Rd w va la) (hc : Gf.Rd w vc lc) : Calls Tryz.prog 216 #[va, .agg #[uH x, uL x], vc] w fun e w' => ∃ v, e = .returned (.tuple #[v, iI 0]) ∧ w'.ownsRow w.heap.size 22 1 v (Gf.ws (Gf.pw Pa Pc x)).length (Gf.cells (Gf.ws (Gf.pw Pa Pc x))) ∧ Below w.heap.size w w' := by
 obtain ⟨ada, capa, rfl⟩ := ha.form
 obtain ⟨adc, capc, rfl⟩ := hc.form
 subst hpa; subst hpc
 exact gpow_1 la ada capa lc adc capc x hsa hsc hq w ha hc
open Sx in
theorem gpowx_1 (x : BitVec 128) (lc : List (BitVec 64)) (adc : Option Addr) (capc : Nat) (hsc : lc.length ≤ 10) (hq : Gf.val lc ≠ 0) (w0 : World) (hrc : Gf.Rd w0 (.slice adc lc.length capc) lc) : Calls Tryz.prog 212 #[.agg #[uH x, uL x], .slice adc lc.length capc] w0 fun e w' => ∃ v, e = .returned (.tuple #[v, iI 0]) ∧ w'.ownsRow w0.heap.size 22 1 v (Gf.ws (Gf.pw (1 <<< 1) (Gf.val lc) x)).length (Gf.cells (Gf.ws (Gf.pw (1 <<< 1) (Gf.val lc) x))) ∧ Below w0.heap.size w0 w' := by
 have fewc := hrc.few
 have hcc := hrc.at
 have hl1 := Gf.lim_len (Gf.lim_one (n := 1) (m := 1) (by decide))
 refine En Tryz.func212 Tryz.ntmps212 fun A F => ?_
 have H := Sx.Own.start w0
 refine Sp fun _ kk => Zb F (d_box F H rfl rfl [uH x, uL x] rfl) fun g1 A w F H => ?_
 iterate 2 (refine Av F ?_; intro A F)
 refine Nl kk (Sx.seq fun K2 hK2 => ?_)
 have F := F.tq [(0, .agg #[uH x, uL x]), (1, .slice adc lc.length capc), (2, pT g1 0)] rfl
 refine Dn F [none, some (.agg #[uH x, uL x]), some (.slice adc lc.length capc), none, none, some (iI 0), none, some (iI 0)] (fun L A w => ∃ v1 : Value, ∃ v2 : Value, (L 0 = true → A.eval (.tmp 6) = v1) ∧ (L 3 = true → A.eval (.tmp 9) = .tuple #[v2, iI 0]) ∧ (L 4 = true → A.eval (.tmp 10) = v2) ∧ (L 6 = true → A.eval (.tmp 4) = v2) ∧ Sx.Own w0 w [(true, g1, [uH x, uL x])] [⟨L 0, v1, 22, 1, (Gf.ws (1 <<< 1)).length, (Gf.cells (Gf.ws (1 <<< 1)))⟩, ⟨L 3, v2, 22, 1, (Gf.ws (Gf.pw (1 <<< 1) (Gf.val lc) x)).length, (Gf.cells (Gf.ws (Gf.pw (1 <<< 1) (Gf.val lc) x)))⟩]) ⟨undef, undef, (fun h => by cases h), (fun h => by cases h), (fun h => by cases h), (fun h => by cases h), H.drew.pad [] rfl [⟨false, undef, 22, 1, (Gf.ws (1 <<< 1)).length, (Gf.cells (Gf.ws (1 <<< 1)))⟩, ⟨false, undef, 22, 1, (Gf.ws (Gf.pw (1 <<< 1) (Gf.val lc) x)).length, (Gf.cells (Gf.ws (Gf.pw (1 <<< 1) (Gf.val lc) x)))⟩] rfl⟩ ?_ ?_
 ·refine ⟨?_, ?_, ?_, ?_, ?_, ?_, ?_, ?_, trivial⟩
  ·intro L A w up hun hd F ⟨v1, v2, p0, p3, p4, p6, H⟩
   have f0 : L 0 = false := hun
   have f3 : L 3 = false := up 3 0 rfl hun
   have f4 : L 4 = false := up 4 3 rfl f3
   have f6 : L 6 = false := up 6 0 rfl hun
   rw [f0, f3] at H
   refine step_on rfl (d_callR_at 0 (vs := [iI 1]) (mk := fun v => v) if_217 F H rfl rfl (gx_c 1 (by omega) _)) ?_
   rintro xv w' ⟨v', hx, H⟩
   exact ⟨Cn, ⟨v', v2, (fun _ => (Sx.put_same F (by decide) _).trans hx), Nf f3, Nf f4, Nf f6, (by show Sx.Own _ _ _ _; rw [show Inv.add L 0 3 = false from f3]; exact H)⟩⟩
  ·intro L A w up hun hd F ⟨v1, v2, p0, p3, p4, p6, H⟩
   have f3 : L 3 = false := up 3 1 rfl hun
   have f4 : L 4 = false := up 4 3 rfl f3
   have f6 : L 6 = false := up 6 1 rfl hun
   have G := H; rw [f3] at G
   refine step_on rfl (Lr 0 [uH x, uL x] rw_26 F G) ?_
   rintro xv w' ⟨hx, rfl⟩
   exact ⟨Cs hx, ⟨v1, v2, Pk p0, Nf f3, Nf f4, Nf f6, H⟩⟩
  ·intro L A w up hun hd F ⟨v1, v2, p0, p3, p4, p6, H⟩
   have f3 : L 3 = false := up 3 2 rfl hun
   have f4 : L 4 = false := up 4 3 rfl f3
   have f6 : L 6 = false := up 6 2 rfl hun
   have G := H; rw [f3] at G
   refine step_on rfl (d_move F (Or.inl rfl) rfl) ?_
   rintro xv w' ⟨hx, rfl⟩
   exact ⟨Cs hx, ⟨v1, v2, Pk p0, Nf f3, Nf f4, Nf f6, H⟩⟩
  ·intro L A w up hun hd F ⟨v1, v2, p0, p3, p4, p6, H⟩
   have t0 : L 0 = true := hd 0 rfl
   have f3 : L 3 = false := hun
   have f4 : L 4 = false := up 4 3 rfl hun
   have f6 : L 6 = false := up 6 3 rfl hun
   rw [t0, f3] at H
   have F := Fr.add F (p0 t0)
   refine step_on rfl (d_callR_at 1 (vs := [v1, .agg #[uH x, uL x], .slice adc lc.length capc]) (mk := fun v => .tuple #[v, iI 0]) if_216 F H rfl rfl (gpow_c _ _ (Gf.ws (1 <<< 1)) lc (1 <<< 1) (Gf.val lc) (Gf.val_ws _) rfl x (by omega) (by omega) (hq) _ (Gf.Rd.row (H.row 0 _ rfl rfl) rfl rfl (by omega)) ((hrc).below H.below))) ?_
   rintro xv w' ⟨v', hx, H⟩
   exact ⟨Cn, ⟨v1, v', Pk p0, (fun _ => (Sx.put_same F (by decide) _).trans hx), Nf f4, Nf f6, (by show Sx.Own _ _ _ _; rw [show Inv.add L 3 0 = true from t0]; exact H)⟩⟩
  ·intro L A w up hun hd F ⟨v1, v2, p0, p3, p4, p6, H⟩
   have t0 : L 0 = true := by
    cases hb : L 0 with
    | true => rfl
    | false =>
     have hb3 := up 3 0 rfl hb
     rw [hd 3 rfl] at hb3; cases hb3
   have t3 : L 3 = true := hd 3 rfl
   have f4 : L 4 = false := hun
   have f6 : L 6 = false := up 6 4 rfl hun
   have G := H; rw [t0, t3] at G
   have F := Fr.add F (p0 t0)
   have F := Fr.add F (p3 t3)
   refine step_on rfl (d_extract (v := v2) F rfl rfl rfl) ?_
   rintro xv w' ⟨hx, rfl⟩
   exact ⟨Cn, ⟨v1, v2, Pk p0, Pk p3, (fun _ => (Sx.put_same F (by decide) _).trans hx), Nf f6, H⟩⟩
  ·intro L A w up hun hd F ⟨v1, v2, p0, p3, p4, p6, H⟩
   have t0 : L 0 = true := by
    cases hb : L 0 with
    | true => rfl
    | false =>
     have hb3 := up 3 0 rfl hb
     rw [hd 3 rfl] at hb3; cases hb3
   have t3 : L 3 = true := hd 3 rfl
   have f6 : L 6 = false := up 6 5 rfl hun
   have G := H; rw [t0, t3] at G
   have F := Fr.add F (p0 t0)
   have F := Fr.add F (p3 t3)
   refine step_on rfl (d_extract (v := iI 0) F rfl rfl rfl) ?_
   rintro xv w' ⟨hx, rfl⟩
   exact ⟨Cs hx, ⟨v1, v2, Pk p0, Pk p3, Pk p4, Nf f6, H⟩⟩
  ·intro L A w up hun hd F ⟨v1, v2, p0, p3, p4, p6, H⟩
   have t0 : L 0 = true := hd 0 rfl
   have t3 : L 3 = true := hd 3 rfl
   have t4 : L 4 = true := hd 4 rfl
   have f6 : L 6 = false := hun
   have G := H; rw [t0, t3] at G
   have F := Fr.add F (p0 t0)
   have F := Fr.add F (p3 t3)
   have F := Fr.add F (p4 t4)
   refine step_on rfl (d_move F (Or.inr rfl) rfl) ?_
   rintro xv w' ⟨hx, rfl⟩
   exact ⟨Cn, ⟨v1, v2, Pk p0, Pk p3, Pk p4, (fun _ => (Sx.put_same F (by decide) _).trans hx), H⟩⟩
  ·intro L A w up hun hd F ⟨v1, v2, p0, p3, p4, p6, H⟩
   have t0 : L 0 = true := hd 0 rfl
   have t3 : L 3 = true := hd 3 rfl
   have t4 : L 4 = true := hd 4 rfl
   have t6 : L 6 = true := hd 6 rfl
   have G := H; rw [t0, t3] at G
   have F := Fr.add F (p0 t0)
   have F := Fr.add F (p3 t3)
   have F := Fr.add F (p4 t4)
   have F := Fr.add F (p6 t6)
   refine step_on rfl (d_move F (Or.inr rfl) rfl) ?_
   rintro xv w' ⟨hx, rfl⟩
   exact ⟨Cs hx, ⟨v1, v2, Pk p0, Pk p3, Pk p4, Pk p6, H⟩⟩
 ·intro L A w hL F ⟨v1, v2, p0, p3, p4, p6, H⟩
  have t0 : L 0 = true := hL 0 rfl
  have t3 : L 3 = true := hL 3 rfl
  have t4 : L 4 = true := hL 4 rfl
  have t6 : L 6 = true := hL 6 rfl
  rw [t0, t3] at H
  have F := Fr.add F (p0 t0)
  have F := Fr.add F (p3 t3)
  have F := Fr.add F (p4 t4)
  have F := Fr.add F (p6 t6)
  have F := F.tq [(4, v2), (5, iI 0)] rfl
  refine hK2 _ _ (Wr (ret2 F Tryz.results212 (res_tmp F rfl) (res_tmp F rfl) ?_))
  exact ⟨_, rfl, H.row 1 _ rfl rfl, H.below⟩
theorem gpowx_c (vc : Value) (lc : List (BitVec 64)) (Pc : Nat) (hpc : Gf.val lc = Pc) (x : BitVec 128) (hsc : lc.length ≤ 10) (hq : Pc ≠ 0) (w : World) (hc : Gf.Rd w vc lc) : Calls Tryz.prog 212 #[.agg #[uH x, uL x], vc] w fun e w' => ∃ v, e = .returned (.tuple #[v, iI 0]) ∧ w'.ownsRow w.heap.size 22 1 v (Gf.ws (Gf.pw (1 <<< 1) Pc x)).length (Gf.cells (Gf.ws (Gf.pw (1 <<< 1) Pc x))) ∧ Below w.heap.size w w' := by
 obtain ⟨adc, capc, rfl⟩ := hc.form
 subst hpc
 exact gpowx_1 x lc adc capc hsc hq w hc
open Sx in
theorem mswrong_1 (f : Nat → Bool) (m : Nat) (st : Ms.S) (i : Nat) (gs gl : Nat) (cv : Value) (ada : Option Addr) (capa : Nat) (hi : i < m) (hn : st.n ≤ i) (hm : m ≤ 2000) (w0 : World) (hc0 : w0.cell? ⟨gs, 0, none⟩ = some cv) (hc2 : w0.cell? ⟨gs, 0 + 2, none⟩ = some (iI (st.n : Nat))) (hl0 : w0.cell? ⟨gl, 0, none⟩ = some (.slice ada m capa)) (hrc : Gf.Rd w0 cv (Gf.ws st.c)) (hrl : ∀ k, k < m → ∃ g o, ada = some ⟨g, o, none⟩ ∧ w0.cell? ⟨g, o + k, none⟩ = some (.bool (f k))) : Calls Tryz.prog 236 #[iI i, pT gs 0, pT gl 0] w0 fun e w' => e = .returned (.bool (Ms.wrong f st.c i (st.n + 1))) ∧ Below w0.heap.size w0 w' := by
 refine En Tryz.func236 Tryz.ntmps236 fun A F => ?_
 have H := Sx.Own.start w0
 refine Sp fun _ kk => Av F fun A F => ?_
 refine Nl kk (Sp fun _ kk => Av F fun A F => ?_)
 refine Nl kk (Sx.seq fun K3 hK3 => Sp fun _ kk => Zv F (d_faddr (v := pT gs 2) F rfl rfl (fa_301_2.default.h _ (0) _)) fun A F => ?_)
 refine Zv F (d_loadF one_3 F H rfl rfl hc2) fun A F => ?_
 refine Zv F (Bn (iI (st.n + 1 : Nat)) F rfl rfl rfl (i_addN rfl (in_i64 _ (by omega)))) fun A F => ?_
 refine Av F fun A F => ?_
 refine Nl kk (wp_block (loop (fun q A w => ∃ (k : Nat), q = (st.n + 1) - k ∧ k ≤ (st.n + 1) ∧ Fr 30 A [(0, iI i), (1, pT gs 0), (2, pT gl 0), (9, iI (st.n + 1 : Nat)), (5, .bool (Ms.wrong f st.c i k)), (10, iI k)] ∧ Sx.Own w0 w [] []) ((st.n + 1) - 0) ⟨0, rfl, Nat.zero_le _, F.to ⟨rfl, rfl, rfl, rfl, rfl, rfl, trivial⟩, H⟩ ?_))
 rintro q A w ⟨k, rfl, hi_k, F, H⟩
 by_cases hlt_k : k < (st.n + 1)
 ·skip
  refine Sp fun _ kk => Zv F (Bn bT F rfl rfl rfl (i_lt (decide_eq_true (by omega)))) fun A F => ?_
  refine Nl kk (Sx.seq fun K6 hK6 => condT F rfl (wp_skip (hK6 _ _ (Sx.seq fun K7 hK7 => wp_block (Sp fun _ kk => ?_)))))
  iterate 2 (refine Av F ?_; intro A F)
  refine Nl kk ?_
  cases hb : Nat.testBit st.c k
  ·have hw : Ms.wrong f st.c i (k + 1) = Ms.wrong f st.c i k := if_neg (by rw [hb, Bool.false_and]; decide)
   refine Sp fun _ kk => Zv F (d_faddr (v := pT gs 0) F rfl rfl (fa_301_0.default.h _ (0) _)) fun A F => ?_
   refine Zv F (d_loadF one_274 F H rfl rfl hc0) fun A F => ?_
   refine Av F fun A F => ?_
   refine Zw F (Dc if_210 F H (gbit_c k _ (Gf.ws st.c) st.c (Gf.val_ws _) _ (by omega) ((hrc).below H.below))) fun A w F H => ?_
   refine Zv F (Bn bF F rfl rfl rfl (i_eq (by rw [hb]; rfl))) fun A F => ?_
   refine Av F fun A F => ?_
   refine su F (wanted_off rfl (guard_known (d := 18) (b := false) F rfl rfl) rfl) rfl (by decide) (fun A F => ?_)
   refine su F (wanted_off rfl (guard_known (d := 18) (b := false) F rfl rfl) rfl) rfl (by decide) (fun A F => ?_)
   refine su F (wanted_off rfl (guard_known (d := 18) (b := false) F rfl rfl) rfl) rfl (by decide) (fun A F => ?_)
   refine su F (wanted_off rfl (guard_known (d := 18) (b := false) F rfl rfl) rfl) rfl (by decide) (fun A F => ?_)
   refine su F (wanted_off rfl (guard_known (d := 18) (b := false) F rfl rfl) rfl) rfl (by decide) (fun A F => ?_)
   refine su F (wanted_off rfl (guard_known (d := 18) (b := false) F rfl rfl) rfl) rfl (by decide) (fun A F => ?_)
   refine Av F fun A F => ?_
   refine Nl kk (condF F rfl (wp_skip (hK7 _ _ (Sx.plain ?_))))
   refine Zv F (Bn (iI (k + 1 : Nat)) F rfl rfl rfl (i_addN rfl (in_i64 _ (by omega)))) fun A F => ?_
   refine Av F fun A F => ?_
   refine Sx.nil ?_
   try dsimp only [Exit.then, Exit.noGoto]
   rw [← hw] at F
   exact ⟨(st.n + 1) - (k + 1), by omega, k + 1, rfl, by omega, F.to ⟨rfl, rfl, rfl, rfl, rfl, rfl, trivial⟩, H⟩
  ·obtain ⟨ga, oa, hada, hcell⟩ := hrl (i - k) (by omega)
   cases hf : f (i - k)
   ·have hw : Ms.wrong f st.c i (k + 1) = Ms.wrong f st.c i k := if_neg (by rw [hb, hf]; decide)
    rw [hf] at hcell
    refine Sp fun _ kk => Zv F (d_faddr (v := pT gs 0) F rfl rfl (fa_301_0.default.h _ (0) _)) fun A F => ?_
    refine Zv F (d_loadF one_274 F H rfl rfl hc0) fun A F => ?_
    refine Av F fun A F => ?_
    refine Zw F (Dc if_210 F H (gbit_c k _ (Gf.ws st.c) st.c (Gf.val_ws _) _ (by omega) ((hrc).below H.below))) fun A w F H => ?_
    refine Zv F (Bn bT F rfl rfl rfl (i_eq (by rw [hb]; rfl))) fun A F => ?_
    refine Av F fun A F => ?_
    refine Zv F (d_loadF one_285 F H rfl rfl hl0) fun A F => ?_
    iterate 2 (refine Av F ?_; intro A F)
    refine Zv F (Bn (iI (i - k : Nat)) F rfl rfl rfl (i_subS (by rw [in64 _ (by omega)]; omega))) fun A F => ?_
    refine Zv F (d_ix1 (k := (i - k)) (g := ga) (off := oa) el_285 F rfl rfl hada rfl (rfl) (by omega)) fun A F => ?_
    refine Zv F (d_loadF one_4 F H rfl rfl hcell) fun A F => ?_
    refine Av F fun A F => ?_
    refine Nl kk (condF F rfl (wp_skip (hK7 _ _ (Sx.plain ?_))))
    refine Zv F (Bn (iI (k + 1 : Nat)) F rfl rfl rfl (i_addN rfl (in_i64 _ (by omega)))) fun A F => ?_
    refine Av F fun A F => ?_
    refine Sx.nil ?_
    try dsimp only [Exit.then, Exit.noGoto]
    rw [← hw] at F
    exact ⟨(st.n + 1) - (k + 1), by omega, k + 1, rfl, by omega, F.to ⟨rfl, rfl, rfl, rfl, rfl, rfl, trivial⟩, H⟩
   ·have hw : Ms.wrong f st.c i (k + 1) = !Ms.wrong f st.c i k := if_pos (by rw [hb, hf]; rfl)
    rw [hf] at hcell
    refine Sp fun _ kk => Zv F (d_faddr (v := pT gs 0) F rfl rfl (fa_301_0.default.h _ (0) _)) fun A F => ?_
    refine Zv F (d_loadF one_274 F H rfl rfl hc0) fun A F => ?_
    refine Av F fun A F => ?_
    refine Zw F (Dc if_210 F H (gbit_c k _ (Gf.ws st.c) st.c (Gf.val_ws _) _ (by omega) ((hrc).below H.below))) fun A w F H => ?_
    refine Zv F (Bn bT F rfl rfl rfl (i_eq (by rw [hb]; rfl))) fun A F => ?_
    refine Av F fun A F => ?_
    refine Zv F (d_loadF one_285 F H rfl rfl hl0) fun A F => ?_
    iterate 2 (refine Av F ?_; intro A F)
    refine Zv F (Bn (iI (i - k : Nat)) F rfl rfl rfl (i_subS (by rw [in64 _ (by omega)]; omega))) fun A F => ?_
    refine Zv F (d_ix1 (k := (i - k)) (g := ga) (off := oa) el_285 F rfl rfl hada rfl (rfl) (by omega)) fun A F => ?_
    refine Zv F (d_loadF one_4 F H rfl rfl hcell) fun A F => ?_
    refine Av F fun A F => ?_
    refine Nl kk (condT F rfl (Sx.plain ?_))
    refine Av F fun A F => ?_
    refine Zv F (d_un (v := .bool (!(Ms.wrong f st.c i k))) F rfl rfl rfl) fun A F => ?_
    refine Av F fun A F => ?_
    refine Sx.nil (hK7 _ _ (Sx.plain ?_))
    refine Zv F (Bn (iI (k + 1 : Nat)) F rfl rfl rfl (i_addN rfl (in_i64 _ (by omega)))) fun A F => ?_
    refine Av F fun A F => ?_
    refine Sx.nil ?_
    try dsimp only [Exit.then, Exit.noGoto]
    rw [← hw] at F
    exact ⟨(st.n + 1) - (k + 1), by omega, k + 1, rfl, by omega, F.to ⟨rfl, rfl, rfl, rfl, rfl, rfl, trivial⟩, H⟩
 ·have hie_k : k = (st.n + 1) := by omega
  rw [hie_k] at F
  try rw [hie_k] at H
  refine Sp fun _ kk => Zv F (Bn bF F rfl rfl rfl (i_lt (decide_eq_false (by omega)))) fun A F => ?_
  refine Nl kk (Sx.seq fun K13 hK13 => condF F rfl (wp_exit ?_))
  try dsimp only [Exit.then, Exit.jump, Exit.noGoto]
  refine exit_here (hK3 _ _ (Sp fun _ kk => ?_))
  iterate 2 (refine Av F ?_; intro A F)
  refine Nl kk (wp_ret ?_)
  try dsimp only [Exit.then, Exit.inBlock, Exit.jump, Exit.noGoto]
  refine ret1 F Tryz.results236 (res_tmp F rfl) ⟨?_, H.below⟩
  rfl
theorem mswrong_c (f : Nat → Bool) (m : Nat) (st : Ms.S) (i : Nat) (gs gl : Nat) (cv lv : Value) (hi : i < m) (hn : st.n ≤ i) (hm : m ≤ 2000) (w : World) (hc0 : w.cell? ⟨gs, 0, none⟩ = some cv) (hc2 : w.cell? ⟨gs, 2, none⟩ = some (.int .i64 (st.n : Nat))) (hl0 : w.cell? ⟨gl, 0, none⟩ = some lv) (hrc : Gf.Rd w cv (Gf.ws st.c)) (hrl : Ms.Rd w lv f m) :
    Calls Tryz.prog 236 #[.int .i64 i, .pointer (some ⟨gs, 0, none⟩), .pointer (some ⟨gl, 0, none⟩)] w fun e w' => e = .returned (.bool (Ms.wrong f st.c i (st.n + 1))) ∧ Below w.heap.size w w' := by
  obtain ⟨_, ada, capa, rfl, hr⟩ := hrl
  exact mswrong_1 f m st i gs gl cv ada capa hi hn hm w hc0 hc2 hl0 hrc hr
open Sx in
theorem mssearch_1 (f : Nat → Bool) (m : Nat) (ada : Option Addr) (capa : Nat) (hm : m ≤ 2000) (w0 : World) (hrl : Ms.Rd w0 (.slice ada m capa) f m) : Calls Tryz.prog 227 #[.slice ada m capa] w0 fun e w' => ∃ c b : Value, e = .returned (.agg #[c, b, iI ((Ms.run f m).n : Nat), iI ((Ms.run f m).ago : Nat)]) ∧ Sx.Own w0 w' [] [⟨true, c, 22, 1, (Gf.ws (Ms.run f m).c).length, (Gf.cells (Gf.ws (Ms.run f m).c))⟩, ⟨true, b, 22, 1, (Gf.ws (Ms.run f m).b).length, (Gf.cells (Gf.ws (Ms.run f m).b))⟩] := by
 refine En Tryz.func227 Tryz.ntmps227 fun A F => ?_
 have H := Sx.Own.start w0
 refine Sp fun _ kk => Zb F (d_box F H rfl rfl [.slice ada m capa] rfl) fun g1 A w F H => ?_
 refine Zb F (d_alloc H rfl [nS, nS, iI 0, iI 0] zero_301) fun g2 A w F H => ?_
 refine Nl kk (Sp fun _ kk => Zr (mk := fun v => v) F (d_litR (qs := #[(0, iU 1)]) (cs := #[iU 1]) (E := 22) (z := 1) F H rfl rfl (fun _ => by kernel_rfl) rfl (by decide)) fun v1 A w F (H : Sx.Own w0 _ [(true, g2, [nS, nS, iI 0, iI 0]), (true, g1, [.slice ada m capa])] [⟨true, v1, 22, 1, 1, [iU 1]⟩]) => ?_)
 refine Zr (mk := fun v => v) F (d_litR (qs := #[(0, iU 1)]) (cs := #[iU 1]) (E := 22) (z := 1) F H rfl rfl (fun _ => by kernel_rfl) rfl (by decide)) fun v2 A w F (H : Sx.Own w0 _ [(true, g2, [nS, nS, iI 0, iI 0]), (true, g1, [.slice ada m capa])] [⟨true, v2, 22, 1, 1, [iU 1]⟩, ⟨true, v1, 22, 1, 1, [iU 1]⟩]) => ?_
 refine Zv F (d_build (qs := #[(0, v1), (1, v2), (2, iI 0), (3, iI 1)]) (v := .agg #[v1, v2, iI 0, iI 1]) F rfl rfl (by obtain ⟨_, _, hv0⟩ := Sx.len_of (k := 1) (v := v1) (rowEq (H.row 1 _ rfl rfl) rfl rfl rfl rfl rfl); obtain ⟨_, _, hv1⟩ := Sx.len_of (k := 1) (v := v2) (rowEq (H.row 0 _ rfl rfl) rfl rfl rfl rfl rfl); rw [hv0, hv1]; kernel_rfl)) fun A F => ?_
 refine Zb F (d_alloc H rfl [nS, nS, iI 0, iI 0] zero_301) fun g3 A w F H => ?_
 refine Zt F (d_store (i := 0) (xs := [v1, v2, iI 0, iI 1]) (us := [v1, v2, iI 0, iI 1]) sz_301 F H rfl rfl rfl (rfl) rfl (by obtain ⟨_, _, hv0⟩ := Sx.len_of (k := 1) (v := v1) (rowEq (H.row 1 _ rfl rfl) rfl rfl rfl rfl rfl); obtain ⟨_, _, hv1⟩ := Sx.len_of (k := 1) (v := v2) (rowEq (H.row 0 _ rfl rfl) rfl rfl rfl rfl rfl); rw [hv0, hv1]; rfl) rfl (Nat.le_of_ble_eq_true rfl) rfl) fun A w F (H : Sx.Own w0 _ [(true, g3, [v1, v2, iI 0, iI 1]), (true, g2, [nS, nS, iI 0, iI 0]), (true, g1, [.slice ada m capa])] [⟨true, v2, 22, 1, 1, [iU 1]⟩, ⟨true, v1, 22, 1, 1, [iU 1]⟩]) => ?_
 refine Nl kk (Sp fun _ kk => Zv F (d_mkFunc (fv := []) (cv := [pT g3 0, pT g1 0]) F rfl rfl rfl) fun A F => ?_)
 refine Av F fun A F => ?_
 refine Nl kk (Sx.seq fun K4 hK4 => Sp fun _ kk => Av F fun A F => ?_)
 refine Zv F (d_lenS el_285 F rfl rfl) fun A F => ?_
 refine Av F fun A F => ?_
 refine Nl kk (wp_block ?_)
 have hw1 : Gf.ws 1 = [1#64] := Gf.ws_small (by decide) (by decide)
 have H : Sx.Own w0 w [(true, g3, [v1, v2, iI ((Ms.run f 0).n), iI ((Ms.run f 0).ago)]), (true, g1, [.slice ada m capa]), (true, g2, [nS, nS, iI 0, iI 0])] [⟨true, v1, 22, 1, (Gf.ws ((Ms.run f 0).c)).length, (Gf.cells (Gf.ws ((Ms.run f 0).c)))⟩, ⟨true, v2, 22, 1, (Gf.ws ((Ms.run f 0).b)).length, (Gf.cells (Gf.ws ((Ms.run f 0).b)))⟩] := by rw [show (Ms.run f 0).c = 1 from rfl, show (Ms.run f 0).b = 1 from rfl, hw1]; exact H.to' [0, 2, 1] [1, 0] (by decide) (by decide) rfl rfl
 refine loop (fun q A w => ∃ (i : Nat) (cv : Value) (bv : Value), q = m - i ∧ i ≤ m ∧ Fr 54 A [(1, pT g1 0), (2, pT g2 0), (3, pT g3 0), (4, .func (.func 236) #[] #[pT g3 0, pT g1 0]), (12, iI m), (13, iI i)] ∧ Sx.Own w0 w [(true, g3, [cv, bv, iI ((Ms.run f i).n), iI ((Ms.run f i).ago)]), (true, g1, [.slice ada m capa]), (true, g2, [nS, nS, iI 0, iI 0])] [⟨true, cv, 22, 1, (Gf.ws ((Ms.run f i).c)).length, (Gf.cells (Gf.ws ((Ms.run f i).c)))⟩, ⟨true, bv, 22, 1, (Gf.ws ((Ms.run f i).b)).length, (Gf.cells (Gf.ws ((Ms.run f i).b)))⟩]) (m - 0) ⟨0, v1, v2, rfl, Nat.zero_le _, F.to ⟨rfl, rfl, rfl, rfl, rfl, rfl, trivial⟩, H⟩ ?_
 rintro q A w ⟨i, cv, bv, rfl, hi_i, F, H⟩
 by_cases hlt_i : i < m
 ·skip
  have hok := Ms.run_ok f i
  obtain ⟨st, hst⟩ : ∃ q, Ms.run f i = q := ⟨_, rfl⟩
  rw [hst] at H hok
  obtain ⟨hl1, hl2, hl3, hl4⟩ := hok.lens (by omega)
  have hn := hok.n
  have hago := hok.ago
  have hrun : Ms.run f (i + 1) = Ms.one f i st := by show Ms.one f i (Ms.run f i) = _; rw [hst]
  unfold Ms.one at hrun
  refine Sp fun _ kk => Zv F (Bn bT F rfl rfl rfl (i_lt (decide_eq_true (by omega)))) fun A F => ?_
  refine Nl kk (Sx.seq fun K7 hK7 => condT F rfl (wp_skip (hK7 _ _ (Sx.seq fun K8 hK8 => wp_block (Sp fun _ kk => ?_)))))
  iterate 2 (refine Av F ?_; intro A F)
  refine Nl kk ?_
  cases hw : Ms.wrong f st.c i (st.n + 1)
  ·rw [hw, if_neg (by decide)] at hrun
   refine Sx.seq fun K10 hK10 => Sp fun _ kk => ?_
   iterate 2 (refine Av F ?_; intro A F)
   refine Zw F (d_callC (fv := []) (vs := [iI i]) (cv := [pT g3 0, pT g1 0]) (v := bF) if_236 F H rfl rfl rfl (Calls.val (mswrong_c f m st i g3 g1 _ _ (by omega) (by omega) (by omega) _ ((H.box 0 g3 _ rfl).1 0 _ rfl).1 ((H.box 0 g3 _ rfl).1 2 _ rfl).1 ((H.box 1 g1 _ rfl).1 0 _ rfl).1 (Gf.Rd.row (H.row 0 _ rfl rfl) rfl rfl (by omega)) ((hrl).below H.below)) rfl (by rw [hw]))) fun A w F H => ?_
   refine Zv F (d_un (v := bT) F rfl rfl rfl) fun A F => ?_
   refine Nl kk (condT F rfl (Sp fun _ kk => ?_))
   iterate 2 (refine Av F ?_; intro A F)
   refine Zv F (Bn (iI (st.ago + 1 : Nat)) F rfl rfl rfl (i_addN rfl (in_i64 _ (by omega)))) fun A F => ?_
   refine Av F fun A F => ?_
   refine Zt F (d_store (i := 0) (xs := [iI (st.ago + 1 : Nat)]) (us := [cv, bv, iI st.n, iI (st.ago + 1 : Nat)]) sz_3 F H rfl rfl rfl rfl rfl rfl rfl (Nat.le_of_ble_eq_true rfl) rfl) fun A w F (H : Sx.Own w0 _ [(true, g3, [cv, bv, iI st.n, iI (st.ago + 1 : Nat)]), (true, g1, [.slice ada m capa]), (true, g2, [nS, nS, iI 0, iI 0])] [⟨true, cv, 22, 1, (Gf.ws (st.c)).length, (Gf.cells (Gf.ws (st.c)))⟩, ⟨true, bv, 22, 1, (Gf.ws (st.b)).length, (Gf.cells (Gf.ws (st.b)))⟩]) => ?_
   refine Nl kk (wp_exit ?_)
   try dsimp only [Exit.then, Exit.jump, Exit.noGoto]
   refine exit_here (hK8 _ _ (Sx.plain ?_))
   refine Zv F (Bn (iI (i + 1 : Nat)) F rfl rfl rfl (i_addN rfl (in_i64 _ (by omega)))) fun A F => ?_
   refine Av F fun A F => ?_
   refine Sx.nil ?_
   try dsimp only [Exit.then, Exit.noGoto]
   exact ⟨m - (i + 1), by omega, i + 1, cv, bv, rfl, by omega, F.to ⟨rfl, rfl, rfl, rfl, rfl, rfl, trivial⟩, by rw [hrun]; exact H⟩
  ·rw [hw, if_pos rfl] at hrun
   refine Sx.seq fun K13 hK13 => Sp fun _ kk => ?_
   iterate 2 (refine Av F ?_; intro A F)
   refine Zw F (d_callC (fv := []) (vs := [iI i]) (cv := [pT g3 0, pT g1 0]) (v := bT) if_236 F H rfl rfl rfl (Calls.val (mswrong_c f m st i g3 g1 _ _ (by omega) (by omega) (by omega) _ ((H.box 0 g3 _ rfl).1 0 _ rfl).1 ((H.box 0 g3 _ rfl).1 2 _ rfl).1 ((H.box 1 g1 _ rfl).1 0 _ rfl).1 (Gf.Rd.row (H.row 0 _ rfl rfl) rfl rfl (by omega)) ((hrl).below H.below)) rfl (by rw [hw]))) fun A w F H => ?_
   refine Zv F (d_un (v := bF) F rfl rfl rfl) fun A F => ?_
   refine Nl kk (condF F rfl (wp_skip (hK13 _ _ (Sx.seq fun K15 hK15 => ?_))))
   have F := F.tq [(1, pT g1 0), (2, pT g2 0), (3, pT g3 0), (4, .func (.func 236) #[] #[pT g3 0, pT g1 0]), (12, iI m), (13, iI i), (14, bT), (15, iI i), (5, iI i), (16, .func (.func 236) #[] #[pT g3 0, pT g1 0]), (17, iI i), (18, bT), (19, bF)] rfl
   refine Dn F [some (pT g3 0), some (cv), some (pT g3 1), some (bv), some (pT g3 3), some (iI st.ago), none, none, none] (fun L A w => ∃ v3 : Value, ∃ v4 : Value, (L 6 = true → A.eval (.tmp 30) = v3) ∧ (L 7 = true → A.eval (.tmp 31) = v4) ∧ (L 8 = true → A.eval (.tmp 6) = v4) ∧ Sx.Own w0 w [(true, g3, [cv, bv, iI st.n, iI st.ago]), (true, g1, [.slice ada m capa]), (true, g2, [nS, nS, iI 0, iI 0])] [⟨true, cv, 22, 1, (Gf.ws (st.c)).length, (Gf.cells (Gf.ws (st.c)))⟩, ⟨true, bv, 22, 1, (Gf.ws (st.b)).length, (Gf.cells (Gf.ws (st.b)))⟩, ⟨L 6, v3, 22, 1, (Gf.ws (st.b <<< st.ago)).length, (Gf.cells (Gf.ws (st.b <<< st.ago)))⟩, ⟨L 7, v4, 22, 1, (Gf.ws (st.c ^^^ (st.b <<< st.ago))).length, (Gf.cells (Gf.ws (st.c ^^^ (st.b <<< st.ago))))⟩]) ⟨undef, undef, (fun h => by cases h), (fun h => by cases h), (fun h => by cases h), H.drew.pad [] rfl [⟨false, undef, 22, 1, (Gf.ws (st.b <<< st.ago)).length, (Gf.cells (Gf.ws (st.b <<< st.ago)))⟩, ⟨false, undef, 22, 1, (Gf.ws (st.c ^^^ (st.b <<< st.ago))).length, (Gf.cells (Gf.ws (st.c ^^^ (st.b <<< st.ago))))⟩] rfl⟩ ?_ ?_
   ·refine ⟨?_, ?_, ?_, ?_, ?_, ?_, ?_, ?_, ?_, trivial⟩
    ·intro L A w up hun hd F ⟨v3, v4, p6, p7, p8, H⟩
     have f1 : L 1 = false := up 1 0 rfl hun
     have f7 : L 7 = false := up 7 1 rfl f1
     have f8 : L 8 = false := up 8 0 rfl hun
     have G := H; rw [f7] at G
     refine step_on rfl (Fd F (fa_301_0.default.h _ _ _)) ?_
     rintro xv w' ⟨hx, rfl⟩
     exact ⟨Cs hx, ⟨v3, v4, Pk p6, Nf f7, Nf f8, H⟩⟩
    ·intro L A w up hun hd F ⟨v3, v4, p6, p7, p8, H⟩
     have f7 : L 7 = false := up 7 1 rfl hun
     have f8 : L 8 = false := up 8 1 rfl hun
     have G := H; rw [f7] at G
     refine step_on rfl (Ld 0 one_274 F G) ?_
     rintro xv w' ⟨hx, rfl⟩
     exact ⟨Cs hx, ⟨v3, v4, Pk p6, Nf f7, Nf f8, H⟩⟩
    ·intro L A w up hun hd F ⟨v3, v4, p6, p7, p8, H⟩
     have f3 : L 3 = false := up 3 2 rfl hun
     have f6 : L 6 = false := up 6 3 rfl f3
     have f7 : L 7 = false := up 7 6 rfl f6
     have f8 : L 8 = false := up 8 2 rfl hun
     have G := H; rw [f6, f7] at G
     refine step_on rfl (Fd F (fa_301_1.default.h _ _ _)) ?_
     rintro xv w' ⟨hx, rfl⟩
     exact ⟨Cs hx, ⟨v3, v4, Nf f6, Nf f7, Nf f8, H⟩⟩
    ·intro L A w up hun hd F ⟨v3, v4, p6, p7, p8, H⟩
     have f6 : L 6 = false := up 6 3 rfl hun
     have f7 : L 7 = false := up 7 6 rfl f6
     have f8 : L 8 = false := up 8 3 rfl hun
     have G := H; rw [f6, f7] at G
     refine step_on rfl (Ld 0 one_274 F G) ?_
     rintro xv w' ⟨hx, rfl⟩
     exact ⟨Cs hx, ⟨v3, v4, Nf f6, Nf f7, Nf f8, H⟩⟩
    ·intro L A w up hun hd F ⟨v3, v4, p6, p7, p8, H⟩
     have f5 : L 5 = false := up 5 4 rfl hun
     have f6 : L 6 = false := up 6 5 rfl f5
     have f7 : L 7 = false := up 7 6 rfl f6
     have f8 : L 8 = false := up 8 4 rfl hun
     have G := H; rw [f6, f7] at G
     refine step_on rfl (Fd F (fa_301_3.default.h _ _ _)) ?_
     rintro xv w' ⟨hx, rfl⟩
     exact ⟨Cs hx, ⟨v3, v4, Nf f6, Nf f7, Nf f8, H⟩⟩
    ·intro L A w up hun hd F ⟨v3, v4, p6, p7, p8, H⟩
     have f6 : L 6 = false := up 6 5 rfl hun
     have f7 : L 7 = false := up 7 6 rfl f6
     have f8 : L 8 = false := up 8 5 rfl hun
     have G := H; rw [f6, f7] at G
     refine step_on rfl (Ld 0 one_3 F G) ?_
     rintro xv w' ⟨hx, rfl⟩
     exact ⟨Cs hx, ⟨v3, v4, Nf f6, Nf f7, Nf f8, H⟩⟩
    ·intro L A w up hun hd F ⟨v3, v4, p6, p7, p8, H⟩
     have f6 : L 6 = false := hun
     have f7 : L 7 = false := up 7 6 rfl hun
     have f8 : L 8 = false := up 8 6 rfl hun
     rw [f6, f7] at H
     refine step_on rfl (d_callR_at 2 (vs := [bv, iI st.ago]) (mk := fun v => v) if_225 F H rfl rfl (gup_c st.ago (by omega) _ (Gf.ws (st.b)) st.b (Gf.val_ws _) (by omega) _ (Gf.Rd.row (H.row 1 _ rfl rfl) rfl rfl (by omega)))) ?_
     rintro xv w' ⟨v', hx, H⟩
     exact ⟨Cn, ⟨v', v4, (fun _ => (Sx.put_same F (by decide) _).trans hx), Nf f7, Nf f8, (by show Sx.Own _ _ _ _; rw [show Inv.add L 6 7 = false from f7]; exact H)⟩⟩
    ·intro L A w up hun hd F ⟨v3, v4, p6, p7, p8, H⟩
     have t6 : L 6 = true := hd 6 rfl
     have f7 : L 7 = false := hun
     have f8 : L 8 = false := up 8 7 rfl hun
     rw [t6, f7] at H
     have F := Fr.add F (p6 t6)
     refine step_on rfl (d_callR_at 3 (vs := [cv, v3]) (mk := fun v => v) if_228 F H rfl rfl (gadd_c _ _ (Gf.ws (st.c)) (Gf.ws (st.b <<< st.ago)) st.c (st.b <<< st.ago) (Gf.val_ws _) (Gf.val_ws _) _ (Gf.Rd.row (H.row 0 _ rfl rfl) rfl rfl (by omega)) (Gf.Rd.row (H.row 2 _ rfl rfl) rfl rfl (by omega)))) ?_
     rintro xv w' ⟨v', hx, H⟩
     exact ⟨Cn, ⟨v3, v', Pk p6, (fun _ => (Sx.put_same F (by decide) _).trans hx), Nf f8, (by show Sx.Own _ _ _ _; rw [show Inv.add L 7 6 = true from t6]; exact H)⟩⟩
    ·intro L A w up hun hd F ⟨v3, v4, p6, p7, p8, H⟩
     have t6 : L 6 = true := hd 6 rfl
     have t7 : L 7 = true := hd 7 rfl
     have f8 : L 8 = false := hun
     have G := H; rw [t6, t7] at G
     have F := Fr.add F (p6 t6)
     have F := Fr.add F (p7 t7)
     refine step_on rfl (d_move F (Or.inr rfl) rfl) ?_
     rintro xv w' ⟨hx, rfl⟩
     exact ⟨Cn, ⟨v3, v4, Pk p6, Pk p7, (fun _ => (Sx.put_same F (by decide) _).trans hx), H⟩⟩
   ·intro L A w hL F ⟨v3, v4, p6, p7, p8, H⟩
    have t6 : L 6 = true := hL 6 rfl
    have t7 : L 7 = true := hL 7 rfl
    have t8 : L 8 = true := hL 8 rfl
    rw [t6, t7] at H
    have F := Fr.add F (p6 t6)
    have F := Fr.add F (p7 t7)
    have F := Fr.add F (p8 t8)
    have F := F.tq [(1, pT g1 0), (2, pT g2 0), (3, pT g3 0), (4, .func (.func 236) #[] #[pT g3 0, pT g1 0]), (12, iI m), (13, iI i), (14, bT), (15, iI i), (5, iI i), (16, .func (.func 236) #[] #[pT g3 0, pT g1 0]), (17, iI i), (18, bT), (19, bF), (6, v4)] rfl
    refine hK15 _ _ ?_
    by_cases h2 : 2 * st.n ≤ i
    ·rw [if_pos h2] at hrun
     refine Sx.seq fun K16 hK16 => Sp fun _ kk => ?_
     iterate 2 (refine Av F ?_; intro A F)
     refine Zv F (Bn (iI (2 * st.n : Nat)) F rfl rfl rfl (i_mulN rfl (in_i64 _ (by omega)))) fun A F => ?_
     refine Av F fun A F => ?_
     refine Zv F (Bn bT F rfl rfl rfl (i_le (decide_eq_true (by omega)))) fun A F => ?_
     refine Nl kk (condT F rfl (Sp fun _ kk => ?_))
     iterate 4 (refine Av F ?_; intro A F)
     refine Zv F (Bn (iI (i + 1 : Nat)) F rfl rfl rfl (i_addN rfl (in_i64 _ (by omega)))) fun A F => ?_
     iterate 2 (refine Av F ?_; intro A F)
     refine Zv F (Bn (iI (i + 1 - st.n : Nat)) F rfl rfl rfl (i_subS (by rw [in64 _ (by omega)]; omega))) fun A F => ?_
     refine Zv F (d_build (qs := #[(0, v4), (1, cv), (2, iI (i + 1 - st.n : Nat)), (3, iI 1)]) (v := .agg #[v4, cv, iI (i + 1 - st.n : Nat), iI 1]) F rfl rfl (by obtain ⟨_, _, hv0⟩ := Sx.len_of (k := (Gf.ws (st.c ^^^ (st.b <<< st.ago))).length) (v := v4) (rowEq (H.row 3 _ rfl rfl) rfl rfl rfl rfl rfl); obtain ⟨_, _, hv1⟩ := Sx.len_of (k := (Gf.ws (st.c)).length) (v := cv) (rowEq (H.row 0 _ rfl rfl) rfl rfl rfl rfl rfl); rw [hv0, hv1]; kernel_rfl)) fun A F => ?_
     refine Zt F (d_store (i := 0) (xs := [v4, cv, iI (i + 1 - st.n : Nat), iI 1]) (us := [v4, cv, iI (i + 1 - st.n : Nat), iI 1]) sz_301 F H rfl rfl rfl (rfl) rfl (by obtain ⟨_, _, hv0⟩ := Sx.len_of (k := (Gf.ws (st.c ^^^ (st.b <<< st.ago))).length) (v := v4) (rowEq (H.row 3 _ rfl rfl) rfl rfl rfl rfl rfl); obtain ⟨_, _, hv1⟩ := Sx.len_of (k := (Gf.ws (st.c)).length) (v := cv) (rowEq (H.row 0 _ rfl rfl) rfl rfl rfl rfl rfl); rw [hv0, hv1]; rfl) rfl (Nat.le_of_ble_eq_true rfl) rfl) fun A w F (H : Sx.Own w0 _ [(true, g3, [v4, cv, iI (i + 1 - st.n : Nat), iI 1]), (true, g1, [.slice ada m capa]), (true, g2, [nS, nS, iI 0, iI 0])] [⟨true, cv, 22, 1, (Gf.ws (st.c)).length, (Gf.cells (Gf.ws (st.c)))⟩, ⟨true, bv, 22, 1, (Gf.ws (st.b)).length, (Gf.cells (Gf.ws (st.b)))⟩, ⟨true, v3, 22, 1, (Gf.ws (st.b <<< st.ago)).length, (Gf.cells (Gf.ws (st.b <<< st.ago)))⟩, ⟨true, v4, 22, 1, (Gf.ws (st.c ^^^ (st.b <<< st.ago))).length, (Gf.cells (Gf.ws (st.c ^^^ (st.b <<< st.ago))))⟩]) => ?_
     refine Nl kk (wp_exit ?_)
     try dsimp only [Exit.then, Exit.jump, Exit.noGoto]
     refine exit_here (hK8 _ _ (Sx.plain ?_))
     refine Zv F (Bn (iI (i + 1 : Nat)) F rfl rfl rfl (i_addN rfl (in_i64 _ (by omega)))) fun A F => ?_
     refine Av F fun A F => ?_
     refine Sx.nil ?_
     try dsimp only [Exit.then, Exit.noGoto]
     exact ⟨m - (i + 1), by omega, i + 1, v4, cv, rfl, by omega, F.to ⟨rfl, rfl, rfl, rfl, rfl, rfl, trivial⟩, by rw [hrun]; exact H.to' [0, 1, 2] [3, 0] (by decide) (by decide) rfl rfl⟩
    ·rw [if_neg h2] at hrun
     refine Sx.seq fun K19 hK19 => Sp fun _ kk => ?_
     iterate 2 (refine Av F ?_; intro A F)
     refine Zv F (Bn (iI (2 * st.n : Nat)) F rfl rfl rfl (i_mulN rfl (in_i64 _ (by omega)))) fun A F => ?_
     refine Av F fun A F => ?_
     refine Zv F (Bn bF F rfl rfl rfl (i_le (decide_eq_false (by omega)))) fun A F => ?_
     refine Nl kk (condF F rfl (wp_skip (hK19 _ _ (Sp fun _ kk => ?_))))
     iterate 2 (refine Av F ?_; intro A F)
     refine Zt F (d_store (i := 0) (xs := [v4]) (us := [v4, bv, iI st.n, iI st.ago]) sz_274 F H rfl rfl rfl (by obtain ⟨_, _, hv0⟩ := Sx.len_of (k := (Gf.ws (st.c ^^^ (st.b <<< st.ago))).length) (v := v4) (rowEq (H.row 3 _ rfl rfl) rfl rfl rfl rfl rfl); rw [hv0]; rfl) rfl (by obtain ⟨_, _, hv0⟩ := Sx.len_of (k := (Gf.ws (st.c ^^^ (st.b <<< st.ago))).length) (v := v4) (rowEq (H.row 3 _ rfl rfl) rfl rfl rfl rfl rfl); rw [hv0]; rfl) rfl (Nat.le_of_ble_eq_true rfl) rfl) fun A w F (H : Sx.Own w0 _ [(true, g3, [v4, bv, iI st.n, iI st.ago]), (true, g1, [.slice ada m capa]), (true, g2, [nS, nS, iI 0, iI 0])] [⟨true, cv, 22, 1, (Gf.ws (st.c)).length, (Gf.cells (Gf.ws (st.c)))⟩, ⟨true, bv, 22, 1, (Gf.ws (st.b)).length, (Gf.cells (Gf.ws (st.b)))⟩, ⟨true, v3, 22, 1, (Gf.ws (st.b <<< st.ago)).length, (Gf.cells (Gf.ws (st.b <<< st.ago)))⟩, ⟨true, v4, 22, 1, (Gf.ws (st.c ^^^ (st.b <<< st.ago))).length, (Gf.cells (Gf.ws (st.c ^^^ (st.b <<< st.ago))))⟩]) => ?_
     refine Nl kk (Sx.plain ?_)
     iterate 2 (refine Av F ?_; intro A F)
     refine Zv F (Bn (iI (st.ago + 1 : Nat)) F rfl rfl rfl (i_addN rfl (in_i64 _ (by omega)))) fun A F => ?_
     refine Av F fun A F => ?_
     refine Zt F (d_store (i := 0) (xs := [iI (st.ago + 1 : Nat)]) (us := [v4, bv, iI st.n, iI (st.ago + 1 : Nat)]) sz_3 F H rfl rfl rfl rfl rfl rfl rfl (Nat.le_of_ble_eq_true rfl) rfl) fun A w F (H : Sx.Own w0 _ [(true, g3, [v4, bv, iI st.n, iI (st.ago + 1 : Nat)]), (true, g1, [.slice ada m capa]), (true, g2, [nS, nS, iI 0, iI 0])] [⟨true, cv, 22, 1, (Gf.ws (st.c)).length, (Gf.cells (Gf.ws (st.c)))⟩, ⟨true, bv, 22, 1, (Gf.ws (st.b)).length, (Gf.cells (Gf.ws (st.b)))⟩, ⟨true, v3, 22, 1, (Gf.ws (st.b <<< st.ago)).length, (Gf.cells (Gf.ws (st.b <<< st.ago)))⟩, ⟨true, v4, 22, 1, (Gf.ws (st.c ^^^ (st.b <<< st.ago))).length, (Gf.cells (Gf.ws (st.c ^^^ (st.b <<< st.ago))))⟩]) => ?_
     refine Sx.nil (hK8 _ _ (Sx.plain ?_))
     refine Zv F (Bn (iI (i + 1 : Nat)) F rfl rfl rfl (i_addN rfl (in_i64 _ (by omega)))) fun A F => ?_
     refine Av F fun A F => ?_
     refine Sx.nil ?_
     try dsimp only [Exit.then, Exit.noGoto]
     exact ⟨m - (i + 1), by omega, i + 1, v4, bv, rfl, by omega, F.to ⟨rfl, rfl, rfl, rfl, rfl, rfl, trivial⟩, by rw [hrun]; exact H.to' [0, 1, 2] [3, 1] (by decide) (by decide) rfl rfl⟩
 ·have hie_i : m = i := by omega
  subst hie_i
  refine Sp fun _ kk => Zv F (Bn bF F rfl rfl rfl (i_lt (by simp))) fun A F => ?_
  refine Nl kk (Sx.seq fun K23 hK23 => condF F rfl (wp_exit ?_))
  try dsimp only [Exit.then, Exit.jump, Exit.noGoto]
  refine exit_here (hK4 _ _ (Sp fun _ kk => Av F fun A F => ?_))
  refine Zt F (d_store (i := 2) (xs := [cv, bv, iI ((Ms.run f m).n), iI ((Ms.run f m).ago)]) (us := [cv, bv, iI ((Ms.run f m).n), iI ((Ms.run f m).ago)]) sz_301 F H rfl rfl rfl (rfl) rfl (by obtain ⟨_, _, hv0⟩ := Sx.len_of (k := (Gf.ws ((Ms.run f m).c)).length) (v := cv) (rowEq (H.row 0 _ rfl rfl) rfl rfl rfl rfl rfl); obtain ⟨_, _, hv1⟩ := Sx.len_of (k := (Gf.ws ((Ms.run f m).b)).length) (v := bv) (rowEq (H.row 1 _ rfl rfl) rfl rfl rfl rfl rfl); rw [hv0, hv1]; rfl) rfl (Nat.le_of_ble_eq_true rfl) rfl) fun A w F (H : Sx.Own w0 _ [(true, g3, [cv, bv, iI ((Ms.run f m).n), iI ((Ms.run f m).ago)]), (true, g1, [.slice ada m capa]), (true, g2, [cv, bv, iI ((Ms.run f m).n), iI ((Ms.run f m).ago)])] [⟨true, cv, 22, 1, (Gf.ws ((Ms.run f m).c)).length, (Gf.cells (Gf.ws ((Ms.run f m).c)))⟩, ⟨true, bv, 22, 1, (Gf.ws ((Ms.run f m).b)).length, (Gf.cells (Gf.ws ((Ms.run f m).b)))⟩]) => ?_
  refine Nl kk (Wr (ret1 F Tryz.results227 (res_row (i := 2) (xs := [cv, bv, iI ((Ms.run f m).n), iI ((Ms.run f m).ago)]) rw_301 F H rfl rfl rfl rfl) ?_))
  exact ⟨_, _, rfl, H.to' [] [0, 1] (by decide) (by decide) rfl rfl⟩
theorem mssearch_c (f : Nat → Bool) (m : Nat) (v : Value) (w : World) (h : Ms.Rd w v f m) : Calls Tryz.prog 227 #[v] w fun e w' => ∃ c b : Value, e = .returned (.agg #[c, b, .int .i64 ((Ms.run f m).n : Nat), .int .i64 ((Ms.run f m).ago : Nat)]) ∧ Sx.Own w w' [] [⟨true, c, 22, 1, (Gf.ws (Ms.run f m).c).length, (Gf.cells (Gf.ws (Ms.run f m).c))⟩, ⟨true, b, 22, 1, (Gf.ws (Ms.run f m).b).length, (Gf.cells (Gf.ws (Ms.run f m).b))⟩] := by
  obtain ⟨hm, ada, capa, rfl, hr⟩ := h
  exact mssearch_1 f m ada capa hm w ⟨hm, ada, capa, rfl, hr⟩
open Sx in
theorem msleast_1 (f : Nat → Bool) (m : Nat) (ada : Option Addr) (capa : Nat) (hm : m ≤ 2000) (ht : 2 * (Ms.run f m).n ≤ m) (w0 : World) (hrl : Ms.Rd w0 (.slice ada m capa) f m) : Calls Tryz.prog 219 #[.slice ada m capa] w0 fun e w' => ∃ v, e = .returned (.tuple #[v, bT]) ∧ w'.ownsRow w0.heap.size 22 1 v (Gf.ws (Ms.rev (Ms.run f m).c (Ms.run f m).n ((Ms.run f m).n + 1))).length (Gf.cells (Gf.ws (Ms.rev (Ms.run f m).c (Ms.run f m).n ((Ms.run f m).n + 1)))) ∧ Below w0.heap.size w0 w' := by
 have hok := Ms.run_ok f m
 obtain ⟨hl1, hl2, hl3, hl4⟩ := hok.lens hm
 have hn := hok.n
 refine En Tryz.func219 Tryz.ntmps219 fun A F => ?_
 have H := Sx.Own.start w0
 refine Sp fun _ kk => ?_
 iterate 2 (refine Av F ?_; intro A F)
 refine Nl kk (Sx.seq fun K2 hK2 => Sp fun _ kk => Av F fun A F => ?_)
 refine Zv F (d_lenS el_285 F rfl rfl) fun A F => ?_
 refine Zv F (Bn bF F rfl rfl rfl (i_gt (decide_eq_false (by omega)))) fun A F => ?_
 refine Nl kk (condF F rfl (wp_skip (hK2 _ _ (Sp fun _ kk => Av F fun A F => ?_))))
 refine Sx.srr (mk := fun c b => .agg #[c, b, iI ((Ms.run f m).n), iI ((Ms.run f m).ago)]) F (d_callO (vs := [.slice ada m capa]) if_227 F rfl rfl (Sx.rr (mk := fun c b => .agg #[c, b, iI ((Ms.run f m).n), iI ((Ms.run f m).ago)]) (C := fun c b => [⟨true, c, 22, 1, (Gf.ws ((Ms.run f m).c)).length, (Gf.cells (Gf.ws ((Ms.run f m).c)))⟩, ⟨true, b, 22, 1, (Gf.ws ((Ms.run f m).b)).length, (Gf.cells (Gf.ws ((Ms.run f m).b)))⟩]) H (mssearch_c f m _ _ ((hrl).below H.below)))) (wanted_none rfl _) rfl (by decide) (fun v1 v2 A w F (H : Sx.Own w0 _ [] [⟨true, v1, 22, 1, (Gf.ws ((Ms.run f m).c)).length, (Gf.cells (Gf.ws ((Ms.run f m).c)))⟩, ⟨true, v2, 22, 1, (Gf.ws ((Ms.run f m).b)).length, (Gf.cells (Gf.ws ((Ms.run f m).b)))⟩]) => ?_)
 refine Zb F (d_alloc H rfl [nS, nS, iI 0, iI 0] zero_301) fun g1 A w F H => ?_
 refine Zt F (d_store (i := 0) (xs := [v1, v2, iI ((Ms.run f m).n), iI ((Ms.run f m).ago)]) (us := [v1, v2, iI ((Ms.run f m).n), iI ((Ms.run f m).ago)]) sz_301 F H rfl rfl rfl (rfl) rfl (by obtain ⟨_, _, hv0⟩ := Sx.len_of (k := (Gf.ws ((Ms.run f m).c)).length) (v := v1) (rowEq (H.row 0 _ rfl rfl) rfl rfl rfl rfl rfl); obtain ⟨_, _, hv1⟩ := Sx.len_of (k := (Gf.ws ((Ms.run f m).b)).length) (v := v2) (rowEq (H.row 1 _ rfl rfl) rfl rfl rfl rfl rfl); rw [hv0, hv1]; rfl) rfl (Nat.le_of_ble_eq_true rfl) rfl) fun A w F (H : Sx.Own w0 _ [(true, g1, [v1, v2, iI ((Ms.run f m).n), iI ((Ms.run f m).ago)])] [⟨true, v1, 22, 1, (Gf.ws ((Ms.run f m).c)).length, (Gf.cells (Gf.ws ((Ms.run f m).c)))⟩, ⟨true, v2, 22, 1, (Gf.ws ((Ms.run f m).b)).length, (Gf.cells (Gf.ws ((Ms.run f m).b)))⟩]) => ?_
 refine Nl kk (Sx.seq fun K5 hK5 => Sp fun _ kk => ?_)
 iterate 2 (refine Av F ?_; intro A F)
 refine Zv F (Bn (iI (2 * (Ms.run f m).n : Nat)) F rfl rfl rfl (i_mulN rfl (in_i64 _ (by omega)))) fun A F => ?_
 refine Av F fun A F => ?_
 refine Zv F (d_lenS el_285 F rfl rfl) fun A F => ?_
 refine Zv F (Bn bF F rfl rfl rfl (i_gt (decide_eq_false (by omega)))) fun A F => ?_
 refine Nl kk (condF F rfl (wp_skip (hK5 _ _ (Sp fun _ kk => Av F fun A F => ?_))))
 refine Nl kk (Sx.seq fun K8 hK8 => Sp fun _ kk => ?_)
 iterate 2 (refine Av F ?_; intro A F)
 refine Zv F (Bn (iI ((Ms.run f m).n + 1 : Nat)) F rfl rfl rfl (i_addN rfl (in_i64 _ (by omega)))) fun A F => ?_
 refine Av F fun A F => ?_
 refine Nl kk (wp_block ?_)
 have hz : Gf.ws (Ms.rev (Ms.run f m).c (Ms.run f m).n 0) = [] := Gf.ws_zero
 have H := Sx.Own.nilR H 22 1
 have H : Sx.Own w0 w [(true, g1, [v1, v2, iI ((Ms.run f m).n), iI ((Ms.run f m).ago)])] [⟨true, nS, 22, 1, (Gf.ws (Ms.rev (Ms.run f m).c (Ms.run f m).n 0)).length, (Gf.cells (Gf.ws (Ms.rev (Ms.run f m).c (Ms.run f m).n 0)))⟩, ⟨true, v1, 22, 1, (Gf.ws ((Ms.run f m).c)).length, (Gf.cells (Gf.ws ((Ms.run f m).c)))⟩, ⟨true, v2, 22, 1, (Gf.ws ((Ms.run f m).b)).length, (Gf.cells (Gf.ws ((Ms.run f m).b)))⟩] := by rw [hz]; exact H
 refine loop (fun q A w => ∃ (k : Nat) (u : Value), q = ((Ms.run f m).n + 1) - k ∧ k ≤ ((Ms.run f m).n + 1) ∧ Fr 38 A [(2, nS), (3, bF), (4, pT g1 0), (20, iI ((Ms.run f m).n + 1 : Nat)), (5, u), (21, iI k)] ∧ Sx.Own w0 w [(true, g1, [v1, v2, iI ((Ms.run f m).n), iI ((Ms.run f m).ago)])] [⟨true, u, 22, 1, (Gf.ws (Ms.rev (Ms.run f m).c (Ms.run f m).n k)).length, (Gf.cells (Gf.ws (Ms.rev (Ms.run f m).c (Ms.run f m).n k)))⟩, ⟨true, v1, 22, 1, (Gf.ws ((Ms.run f m).c)).length, (Gf.cells (Gf.ws ((Ms.run f m).c)))⟩, ⟨true, v2, 22, 1, (Gf.ws ((Ms.run f m).b)).length, (Gf.cells (Gf.ws ((Ms.run f m).b)))⟩]) (((Ms.run f m).n + 1) - 0) ⟨0, (nS), rfl, Nat.zero_le _, F.to ⟨rfl, rfl, rfl, rfl, rfl, rfl, trivial⟩, H⟩ ?_
 rintro q A w ⟨k, u, rfl, hi_k, F, H⟩
 by_cases hlt_k : k < ((Ms.run f m).n + 1)
 ·skip
  have hl5 := Gf.lim_len (Gf.lim_of (n := 40) (Ms.rev_lt (Ms.run f m).c (Ms.run f m).n k) (by omega))
  have hl6 := Gf.lim_len (Gf.lim_one (n := k) (m := 40) (by omega))
  refine Sp fun _ kk => Zv F (Bn bT F rfl rfl rfl (i_lt (decide_eq_true (by omega)))) fun A F => ?_
  refine Nl kk (Sx.seq fun K11 hK11 => condT F rfl (wp_skip (hK11 _ _ (Sx.seq fun K12 hK12 => wp_block (Sp fun _ kk => ?_)))))
  iterate 2 (refine Av F ?_; intro A F)
  refine Nl kk ?_
  cases hb : Nat.testBit (Ms.run f m).c ((Ms.run f m).n - k)
  ·have hv : Ms.rev (Ms.run f m).c (Ms.run f m).n (k + 1) = Ms.rev (Ms.run f m).c (Ms.run f m).n k := if_neg (by rw [hb]; decide)
   refine Sp fun _ kk => ?_
   iterate 5 (refine Av F ?_; intro A F)
   refine Zv F (Bn (iI ((Ms.run f m).n - k : Nat)) F rfl rfl rfl (i_subS (by rw [in64 _ (by omega)]; omega))) fun A F => ?_
   refine Zw F (Dc if_210 F H (gbit_c ((Ms.run f m).n - k) _ (Gf.ws ((Ms.run f m).c)) ((Ms.run f m).c) (Gf.val_ws _) _ (by omega) (Gf.Rd.row (H.row 1 _ rfl rfl) rfl rfl (by omega)))) fun A w F H => ?_
   refine Zv F (Bn bF F rfl rfl rfl (i_eq (by rw [hb]; rfl))) fun A F => ?_
   refine Nl kk (condF F rfl (wp_skip (hK12 _ _ (Sx.plain ?_))))
   refine Zv F (Bn (iI (k + 1 : Nat)) F rfl rfl rfl (i_addN rfl (in_i64 _ (by omega)))) fun A F => ?_
   refine Av F fun A F => ?_
   refine Sx.nil ?_
   try dsimp only [Exit.then, Exit.noGoto]
   exact ⟨((Ms.run f m).n + 1) - (k + 1), by omega, k + 1, u, rfl, by omega, F.to ⟨rfl, rfl, rfl, rfl, rfl, rfl, trivial⟩, by rw [hv]; exact H⟩
  ·have hv : Ms.rev (Ms.run f m).c (Ms.run f m).n (k + 1) = Ms.rev (Ms.run f m).c (Ms.run f m).n k ^^^ 1 <<< k := if_pos hb
   refine Sp fun _ kk => ?_
   iterate 5 (refine Av F ?_; intro A F)
   refine Zv F (Bn (iI ((Ms.run f m).n - k : Nat)) F rfl rfl rfl (i_subS (by rw [in64 _ (by omega)]; omega))) fun A F => ?_
   refine Zw F (Dc if_210 F H (gbit_c ((Ms.run f m).n - k) _ (Gf.ws ((Ms.run f m).c)) ((Ms.run f m).c) (Gf.val_ws _) _ (by omega) (Gf.Rd.row (H.row 1 _ rfl rfl) rfl rfl (by omega)))) fun A w F H => ?_
   refine Zv F (Bn bT F rfl rfl rfl (i_eq (by rw [hb]; rfl))) fun A F => ?_
   refine Nl kk (condT F rfl (Sx.plain ?_))
   iterate 2 (refine Av F ?_; intro A F)
   refine Zr (mk := fun v => v) F (d_callR (vs := [iI k]) (mk := fun v => v) if_217 F H rfl rfl (gx_c k (by omega) _)) fun v3 A w F (H : Sx.Own w0 _ [(true, g1, [v1, v2, iI ((Ms.run f m).n), iI ((Ms.run f m).ago)])] [⟨true, v3, 22, 1, (Gf.ws (1 <<< k)).length, (Gf.cells (Gf.ws (1 <<< k)))⟩, ⟨true, u, 22, 1, (Gf.ws (Ms.rev (Ms.run f m).c (Ms.run f m).n k)).length, (Gf.cells (Gf.ws (Ms.rev (Ms.run f m).c (Ms.run f m).n k)))⟩, ⟨true, v1, 22, 1, (Gf.ws ((Ms.run f m).c)).length, (Gf.cells (Gf.ws ((Ms.run f m).c)))⟩, ⟨true, v2, 22, 1, (Gf.ws ((Ms.run f m).b)).length, (Gf.cells (Gf.ws ((Ms.run f m).b)))⟩]) => ?_
   refine Zr (mk := fun v => v) F (d_callR (vs := [u, v3]) (mk := fun v => v) if_228 F H rfl rfl (gadd_c _ _ (Gf.ws (Ms.rev (Ms.run f m).c (Ms.run f m).n k)) (Gf.ws (1 <<< k)) (Ms.rev (Ms.run f m).c (Ms.run f m).n k) (1 <<< k) (Gf.val_ws _) (Gf.val_ws _) _ (Gf.Rd.row (H.row 1 _ rfl rfl) rfl rfl (by omega)) (Gf.Rd.row (H.row 0 _ rfl rfl) rfl rfl (by omega)))) fun v4 A w F (H : Sx.Own w0 _ [(true, g1, [v1, v2, iI ((Ms.run f m).n), iI ((Ms.run f m).ago)])] [⟨true, v4, 22, 1, (Gf.ws ((Ms.rev (Ms.run f m).c (Ms.run f m).n k) ^^^ (1 <<< k))).length, (Gf.cells (Gf.ws ((Ms.rev (Ms.run f m).c (Ms.run f m).n k) ^^^ (1 <<< k))))⟩, ⟨true, v3, 22, 1, (Gf.ws (1 <<< k)).length, (Gf.cells (Gf.ws (1 <<< k)))⟩, ⟨true, u, 22, 1, (Gf.ws (Ms.rev (Ms.run f m).c (Ms.run f m).n k)).length, (Gf.cells (Gf.ws (Ms.rev (Ms.run f m).c (Ms.run f m).n k)))⟩, ⟨true, v1, 22, 1, (Gf.ws ((Ms.run f m).c)).length, (Gf.cells (Gf.ws ((Ms.run f m).c)))⟩, ⟨true, v2, 22, 1, (Gf.ws ((Ms.run f m).b)).length, (Gf.cells (Gf.ws ((Ms.run f m).b)))⟩]) => ?_
   refine Av F fun A F => ?_
   refine Sx.nil (hK12 _ _ (Sx.plain ?_))
   refine Zv F (Bn (iI (k + 1 : Nat)) F rfl rfl rfl (i_addN rfl (in_i64 _ (by omega)))) fun A F => ?_
   refine Av F fun A F => ?_
   refine Sx.nil ?_
   try dsimp only [Exit.then, Exit.noGoto]
   exact ⟨((Ms.run f m).n + 1) - (k + 1), by omega, k + 1, v4, rfl, by omega, F.to ⟨rfl, rfl, rfl, rfl, rfl, rfl, trivial⟩, by rw [hv]; exact H.to' [0] [0, 3, 4] (by decide) (by decide) rfl rfl⟩
 ·have hie_k : k = ((Ms.run f m).n + 1) := by omega
  rw [hie_k] at F
  try rw [hie_k] at H
  refine Sp fun _ kk => Zv F (Bn bF F rfl rfl rfl (i_lt (decide_eq_false (by omega)))) fun A F => ?_
  refine Nl kk (Sx.seq fun K17 hK17 => condF F rfl (wp_exit ?_))
  try dsimp only [Exit.then, Exit.jump, Exit.noGoto]
  refine exit_here (hK8 _ _ (Sp fun _ kk => ?_))
  iterate 3 (refine Av F ?_; intro A F)
  refine Nl kk (Wr (ret2 F Tryz.results219 (res_tmp F rfl) (res_tmp F rfl) ?_))
  exact ⟨_, rfl, H.row 0 _ rfl rfl, H.below⟩
theorem msleast_c (f : Nat → Bool) (m : Nat) (ht : 2 * (Ms.run f m).n ≤ m) (v : Value) (w : World) (h : Ms.Rd w v f m) : Calls Tryz.prog 219 #[v] w fun e w' => ∃ v, e = .returned (.tuple #[v, .bool true]) ∧ w'.ownsRow w.heap.size 22 1 v (Gf.ws (Ms.rev (Ms.run f m).c (Ms.run f m).n ((Ms.run f m).n + 1))).length (Gf.cells (Gf.ws (Ms.rev (Ms.run f m).c (Ms.run f m).n ((Ms.run f m).n + 1)))) ∧ Below w.heap.size w w' := by
  obtain ⟨hm, ada, capa, rfl, hr⟩ := h
  exact msleast_1 f m ada capa hm ht w ⟨hm, ada, capa, rfl, hr⟩
section
namespace Xj
open Xo
def s1 : St := ⟨1#64, 0#64, 0#64, 0#64⟩
def bits512 : Nat := 0x461d44b655b96d08fa9933b3b0e6d9fa7fbb416f3023041c593a55c47ea1ad41d4b1a0c7e6e51adb15e1fe5a6b7ae733270466d1a5db9d3c134e10fdeae665cb
def leastC : Nat := 0x1001e1e1ba9ed1172f4b17ee7a800028143f348c9e76e5a4131a6f9f878078001
def lowN : Nat → Nat → Nat → Nat → Nat → Nat → Bool
  | 0, _, _, _, _, _ => true
  | n + 1, L, a, b, c, d => and (Nat.beq (Nat.mod a 2) (Nat.mod L 2))
    (lowN n (Nat.div L 2) (Nat.xor a (Nat.xor d b)) (Nat.xor b (Nat.xor c a)) (Nat.xor (Nat.xor c a) (Nat.mod (Nat.shiftLeft b 17) M)) (Nat.lor (Nat.mod (Nat.shiftLeft (Nat.xor d b) 45) M) (Nat.shiftRight (Nat.xor d b) 19)))
theorem low_nat (s : St) : low s = decide (s.a.toNat % 2 = 1) := by
  unfold low
  rw [BitVec.toNat_and, show (1#64).toNat = 1 from rfl, Nat.and_one_is_mod]
  have : s.a.toNat % 2 = 0 ∨ s.a.toNat % 2 = 1 := by omega
  rcases this with e | e <;> rw [e] <;> rfl
theorem lowN_ok : ∀ (n L : Nat) (s : St), lowN n L s.a.toNat s.b.toNat s.c.toNat s.d.toNat = true → ∀ k, k < n → low (it k s) = L.testBit k
  | 0, _, _, _, k, hk => absurd hk (Nat.not_lt_zero k)
  | n + 1, L, s, h, k, hk => by
    obtain ⟨e1, e2, e3, e4⟩ := step_nat s
    unfold lowN at h
    rw [← e1, ← e2, ← e3, ← e4] at h
    have h' : (Nat.beq (Nat.mod s.a.toNat 2) (Nat.mod L 2) && lowN n (Nat.div L 2) (Xo.step s).a.toNat (Xo.step s).b.toNat (Xo.step s).c.toNat (Xo.step s).d.toNat) = true := h
    rw [Bool.and_eq_true] at h'
    cases k with
    | zero =>
      have e : s.a.toNat % 2 = L % 2 := Nat.eq_of_beq_eq_true h'.1
      show low s = _
      rw [low_nat, Nat.testBit_zero, e]
    | succ k =>
      rw [Nat.testBit_succ, show it (k + 1) s = it k (Xo.step s) from (it_comm 1 k s)]
      exact lowN_ok n (L / 2) (Xo.step s) h'.2 k (by omega)
theorem bits_eq (k : Nat) (hk : k < 512) : low (it k s1) = bits512.testBit k :=
  lowN_ok 512 bits512 s1 (show lowN 512 bits512 1 0 0 0 = true by decide +kernel) k hk
end Xj
namespace Ms
theorem wrong_congr {f g : Nat → Bool} (c i : Nat) (h : ∀ j, j ≤ i → f j = g j) : ∀ k, wrong f c i k = wrong g c i k
  | 0 => rfl
  | k + 1 => by
    show (if (c.testBit k && f (i - k)) = true then !wrong f c i k else wrong f c i k) = (if (c.testBit k && g (i - k)) = true then !wrong g c i k else wrong g c i k)
    rw [wrong_congr c i h k, h (i - k) (Nat.sub_le _ _)]
theorem run_congr {f g : Nat → Bool} : ∀ m, (∀ j, j < m → f j = g j) → run f m = run g m
  | 0, _ => rfl
  | m + 1, h => by
    show one f m (run f m) = one g m (run g m)
    rw [run_congr m (fun j hj => h j (by omega))]
    unfold one
    rw [wrong_congr _ m (fun j hj => h j (by omega))]
def itr (f : Nat → Bool) : Nat → S → Nat → S
  | _, s, 0 => s
  | i, s, m + 1 => itr f (i + 1) (one f i s) m
theorem itr_succ (f : Nat → Bool) : ∀ (m i : Nat) (s : S), itr f i s (m + 1) = one f (i + m) (itr f i s m)
  | 0, _, _ => rfl
  | m + 1, i, s => by
    show itr f (i + 1) (one f i s) (m + 1) = _
    rw [itr_succ f m (i + 1) (one f i s), show i + 1 + m = i + (m + 1) from by omega]; rfl
theorem run_itr (f : Nat → Bool) : ∀ m, run f m = itr f 0 start m
  | 0 => rfl
  | m + 1 => by rw [itr_succ, Nat.zero_add, ← run_itr f m]; rfl
def tbN (c k : Nat) : Bool := Nat.beq (Nat.mod (Nat.shiftRight c k) 2) 1
theorem tbN_eq (c k : Nat) : tbN c k = c.testBit k := by
  have h := Nat.testBit_zero (c >>> k)
  rw [Nat.testBit_shiftRight, Nat.add_zero] at h
  rw [h]
  show Nat.beq (c >>> k % 2) 1 = _
  have : c >>> k % 2 = 0 ∨ c >>> k % 2 = 1 := by omega
  rcases this with e | e <;> rw [e] <;> rfl
def wrongN (L c i : Nat) : Nat → Bool
  | 0 => false
  | k + 1 => bif and (tbN c k) (tbN L (Nat.sub i k)) then not (wrongN L c i k) else wrongN L c i k
theorem wrongN_eq (L c i : Nat) : ∀ k, wrongN L c i k = wrong L.testBit c i k
  | 0 => rfl
  | k + 1 => by
    show (bif and (tbN c k) (tbN L (Nat.sub i k)) then not (wrongN L c i k) else wrongN L c i k) = (if (c.testBit k && L.testBit (i - k)) = true then !wrong L.testBit c i k else wrong L.testBit c i k)
    rw [wrongN_eq L c i k, tbN_eq, tbN_eq]
    show (bif (c.testBit k && L.testBit (i - k)) then _ else _) = _
    cases (c.testBit k && L.testBit (i - k)) <;> rfl
def goN (L C : Nat) : Nat → Nat → Nat → Nat → Nat → Nat → Bool
  | 0, _, c, _, n, _ => and (Nat.beq c C) (Nat.beq n 256)
  | m + 1, i, c, b, n, ago =>
    bif wrongN L c i (n + 1) then
      (bif Nat.ble (Nat.mul 2 n) i then goN L C m (Nat.succ i) (Nat.xor c (Nat.shiftLeft b ago)) c (Nat.sub (Nat.succ i) n) 1
       else goN L C m (Nat.succ i) (Nat.xor c (Nat.shiftLeft b ago)) b n (Nat.succ ago))
    else goN L C m (Nat.succ i) c b n (Nat.succ ago)
theorem goN_ok (L C : Nat) : ∀ (m i : Nat) (s : S), goN L C m i s.c s.b s.n s.ago = true → (itr L.testBit i s m).c = C ∧ (itr L.testBit i s m).n = 256
  | 0, _, s, h => by
    have h' : (Nat.beq s.c C && Nat.beq s.n 256) = true := h
    rw [Bool.and_eq_true] at h'
    exact ⟨Nat.eq_of_beq_eq_true h'.1, Nat.eq_of_beq_eq_true h'.2⟩
  | m + 1, i, s, h => by
    unfold goN at h
    rw [wrongN_eq] at h
    show (itr L.testBit (i + 1) (one L.testBit i s) m).c = C ∧ (itr L.testBit (i + 1) (one L.testBit i s) m).n = 256
    unfold one
    cases hw : wrong L.testBit s.c i (s.n + 1)
    · rw [hw] at h
      rw [if_neg (by decide)]
      exact goN_ok L C m (i + 1) ⟨s.c, s.b, s.n, s.ago + 1⟩ h
    · rw [hw] at h
      rw [if_pos rfl]
      by_cases h2 : 2 * s.n ≤ i
      · rw [if_pos h2]
        have hb : Nat.ble (Nat.mul 2 s.n) i = true := Nat.ble_eq_true_of_le h2
        rw [hb] at h
        exact goN_ok L C m (i + 1) ⟨s.c ^^^ s.b <<< s.ago, s.c, i + 1 - s.n, 1⟩ h
      · rw [if_neg h2]
        have hb : Nat.ble (Nat.mul 2 s.n) i = false := by
          cases hb : Nat.ble (Nat.mul 2 s.n) i
          · rfl
          · exact absurd (Nat.le_of_ble_eq_true hb) h2
        rw [hb] at h
        exact goN_ok L C m (i + 1) ⟨s.c ^^^ s.b <<< s.ago, s.b, s.n, s.ago + 1⟩ h
end Ms
namespace Xj
theorem found : (Ms.run (fun k => low (Xo.it k s1)) 512).c = leastC ∧ (Ms.run (fun k => low (Xo.it k s1)) 512).n = 256 := by
  rw [Ms.run_congr 512 (g := bits512.testBit) bits_eq, Ms.run_itr]
  exact Ms.goN_ok bits512 leastC 512 0 Ms.start (show Ms.goN bits512 leastC 512 0 1 1 0 1 = true by decide +kernel)
theorem rev_rule : Ms.rev leastC 256 257 = rule := by decide +kernel
theorem rule_found : Ms.rev (Ms.run (fun k => low (Xo.it k s1)) 512).c (Ms.run (fun k => low (Xo.it k s1)) 512).n ((Ms.run (fun k => low (Xo.it k s1)) 512).n + 1) = rule := by
  rw [found.1, found.2]; exact rev_rule
theorem rule_lim : rule < Gf.lim 5 := Gf.lim_of (m := 257) (by decide +kernel) (by decide)
end Xj
end
namespace Xj
theorem deg_act (p : Nat) (s : St) : ∃ D : Nat, Gf.deg p = (D : Int) - 1 ∧ sum p s D = act p s := by
  unfold Gf.deg act
  by_cases h : p = 0
  · subst h; exact ⟨0, rfl, rfl⟩
  · rw [if_neg h]; exact ⟨p.log2 + 1, by omega, rfl⟩
end Xj
open Sx in
theorem xrule_c  (w0 : World) : Calls Tryz.prog 213 #[] w0 fun e w' => ∃ v, e = .returned (v) ∧ w'.ownsRow w0.heap.size 22 1 v (Gf.ws Xj.rule).length (Gf.cells (Gf.ws Xj.rule)) ∧ Below w0.heap.size w0 w' := by
 refine En Tryz.func213 Tryz.ntmps213 fun A F => ?_
 have H := Sx.Own.start w0
 refine Sp fun _ kk => Av F fun A F => ?_
 refine Nl kk (Sp fun _ kk => Zv F (d_build (qs := #[(0, iU 1)]) (v := .agg #[iU 1, iU 0, iU 0, iU 0]) F rfl rfl (by kernel_rfl)) fun A F => ?_)
 refine Zr (mk := fun v => .tuple #[v, iI 0]) F (d_callR (vs := [.agg #[iU 1, iU 0, iU 0, iU 0], iI 512]) (mk := fun v => .tuple #[v, iI 0]) if_218 F H rfl rfl (xbits_c Xj.s1 512 (by omega) _)) fun v1 A w F (H : Sx.Own w0 _ [] [⟨true, v1, 4, 1, 512, (Xj.bools Xj.s1 512)⟩]) => ?_
 iterate 5 (refine Av F ?_; intro A F)
 refine Nl kk (Sp fun _ kk => Av F fun A F => ?_)
 refine Zr (mk := fun v => .tuple #[v, bT]) F (d_callR (vs := [v1]) (mk := fun v => .tuple #[v, bT]) if_219 F H rfl rfl (msleast_c (fun k => Xj.low (Xo.it k Xj.s1)) 512 (by rw [Xj.found.2]; decide) _ _ (Ms.Rd.row (H.row 0 _ rfl rfl) (by decide)))) fun v2 A w F (H : Sx.Own w0 _ [] [⟨true, v2, 22, 1, (Gf.ws (Ms.rev (Ms.run (fun k => Xj.low (Xo.it k Xj.s1)) 512).c (Ms.run (fun k => Xj.low (Xo.it k Xj.s1)) 512).n ((Ms.run (fun k => Xj.low (Xo.it k Xj.s1)) 512).n + 1))).length, (Gf.cells (Gf.ws (Ms.rev (Ms.run (fun k => Xj.low (Xo.it k Xj.s1)) 512).c (Ms.run (fun k => Xj.low (Xo.it k Xj.s1)) 512).n ((Ms.run (fun k => Xj.low (Xo.it k Xj.s1)) 512).n + 1))))⟩, ⟨true, v1, 4, 1, 512, (Xj.bools Xj.s1 512)⟩]) => ?_
 iterate 5 (refine Av F ?_; intro A F)
 refine Nl kk (Sp fun _ kk => ?_)
 iterate 2 (refine Av F ?_; intro A F)
 refine Nl kk (Wr (ret1 F Tryz.results213 (res_tmp F rfl) ?_))
 rw [Xj.rule_found] at H
 exact ⟨_, rfl, H.row 0 _ rfl rfl, H.below⟩
open Sx in
theorem xpoly_c (x : BitVec 128) (w0 : World) : Calls Tryz.prog 207 #[.agg #[uH x, uL x]] w0 fun e w' => ∃ v, e = .returned (v) ∧ w'.ownsRow w0.heap.size 22 1 v (Gf.ws (Gf.pw (1 <<< 1) Xj.rule x)).length (Gf.cells (Gf.ws (Gf.pw (1 <<< 1) Xj.rule x))) ∧ Below w0.heap.size w0 w' := by
 have hlr := Gf.lim_len Xj.rule_lim
 refine En Tryz.func207 Tryz.ntmps207 fun A F => ?_
 have H := Sx.Own.start w0
 refine Sp fun _ kk => Zb F (d_box F H rfl rfl [uH x, uL x] rfl) fun g1 A w F H => ?_
 refine Av F fun A F => ?_
 refine Nl kk (Sx.seq fun K2 hK2 => ?_)
 have F := F.tq [(0, .agg #[uH x, uL x]), (1, pT g1 0), (2, nS)] rfl
 refine Dn F [some (.agg #[uH x, uL x]), none, none, none, none, some (iI 0), none, some (iI 0)] (fun L A w => ∃ v1 : Value, ∃ v2 : Value, (L 1 = true → A.eval (.tmp 7) = v1) ∧ (L 2 = true → A.eval (.tmp 8) = .tuple #[v2, iI 0]) ∧ (L 3 = true → A.eval (.tmp 5) = .tuple #[v2, iI 0]) ∧ (L 4 = true → A.eval (.tmp 9) = v2) ∧ (L 6 = true → A.eval (.tmp 3) = v2) ∧ Sx.Own w0 w [(true, g1, [uH x, uL x])] [⟨L 1, v1, 22, 1, (Gf.ws Xj.rule).length, (Gf.cells (Gf.ws Xj.rule))⟩, ⟨L 2, v2, 22, 1, (Gf.ws (Gf.pw (1 <<< 1) Xj.rule x)).length, (Gf.cells (Gf.ws (Gf.pw (1 <<< 1) Xj.rule x)))⟩]) ⟨undef, undef, (fun h => by cases h), (fun h => by cases h), (fun h => by cases h), (fun h => by cases h), (fun h => by cases h), H.drew.pad [] rfl [⟨false, undef, 22, 1, (Gf.ws Xj.rule).length, (Gf.cells (Gf.ws Xj.rule))⟩, ⟨false, undef, 22, 1, (Gf.ws (Gf.pw (1 <<< 1) Xj.rule x)).length, (Gf.cells (Gf.ws (Gf.pw (1 <<< 1) Xj.rule x)))⟩] rfl⟩ ?_ ?_
 ·refine ⟨?_, ?_, ?_, ?_, ?_, ?_, ?_, ?_, trivial⟩
  ·intro L A w up hun hd F ⟨v1, v2, p1, p2, p3, p4, p6, H⟩
   have f2 : L 2 = false := up 2 0 rfl hun
   have f3 : L 3 = false := up 3 2 rfl f2
   have f4 : L 4 = false := up 4 3 rfl f3
   have f6 : L 6 = false := up 6 0 rfl hun
   have G := H; rw [f2] at G
   refine step_on rfl (Lr 0 [uH x, uL x] rw_26 F G) ?_
   rintro xv w' ⟨hx, rfl⟩
   exact ⟨Cs hx, ⟨v1, v2, Pk p1, Nf f2, Nf f3, Nf f4, Nf f6, H⟩⟩
  ·intro L A w up hun hd F ⟨v1, v2, p1, p2, p3, p4, p6, H⟩
   have f1 : L 1 = false := hun
   have f2 : L 2 = false := up 2 1 rfl hun
   have f3 : L 3 = false := up 3 2 rfl f2
   have f4 : L 4 = false := up 4 3 rfl f3
   have f6 : L 6 = false := up 6 1 rfl hun
   rw [f1, f2] at H
   refine step_on rfl (d_callR_at 0 (vs := []) (mk := fun v => v) if_213 F H rfl rfl (xrule_c _)) ?_
   rintro xv w' ⟨v', hx, H⟩
   exact ⟨Cn, ⟨v', v2, (fun _ => (Sx.put_same F (by decide) _).trans hx), Nf f2, Nf f3, Nf f4, Nf f6, (by show Sx.Own _ _ _ _; rw [show Inv.add L 1 2 = false from f2]; exact H)⟩⟩
  ·intro L A w up hun hd F ⟨v1, v2, p1, p2, p3, p4, p6, H⟩
   have t1 : L 1 = true := hd 1 rfl
   have f2 : L 2 = false := hun
   have f3 : L 3 = false := up 3 2 rfl hun
   have f4 : L 4 = false := up 4 3 rfl f3
   have f6 : L 6 = false := up 6 2 rfl hun
   rw [t1, f2] at H
   have F := Fr.add F (p1 t1)
   refine step_on rfl (d_callR_at 1 (vs := [.agg #[uH x, uL x], v1]) (mk := fun v => .tuple #[v, iI 0]) if_212 F H rfl rfl (gpowx_c _ (Gf.ws Xj.rule) Xj.rule (Gf.val_ws _) x (by omega) (Xj.rule_kills.1) _ (Gf.Rd.row (H.row 0 _ rfl rfl) rfl rfl (by omega)))) ?_
   rintro xv w' ⟨v', hx, H⟩
   exact ⟨Cn, ⟨v1, v', Pk p1, (fun _ => (Sx.put_same F (by decide) _).trans hx), Nf f3, Nf f4, Nf f6, (by show Sx.Own _ _ _ _; rw [show Inv.add L 2 1 = true from t1]; exact H)⟩⟩
  ·intro L A w up hun hd F ⟨v1, v2, p1, p2, p3, p4, p6, H⟩
   have t1 : L 1 = true := by
    cases hb : L 1 with
    | true => rfl
    | false =>
     have hb2 := up 2 1 rfl hb
     rw [hd 2 rfl] at hb2; cases hb2
   have t2 : L 2 = true := hd 2 rfl
   have f3 : L 3 = false := hun
   have f4 : L 4 = false := up 4 3 rfl hun
   have f6 : L 6 = false := up 6 3 rfl hun
   have G := H; rw [t1, t2] at G
   have F := Fr.add F (p1 t1)
   have F := Fr.add F (p2 t2)
   refine step_on rfl (d_move F (Or.inl rfl) rfl) ?_
   rintro xv w' ⟨hx, rfl⟩
   exact ⟨Cn, ⟨v1, v2, Pk p1, Pk p2, (fun _ => (Sx.put_same F (by decide) _).trans hx), Nf f4, Nf f6, H⟩⟩
  ·intro L A w up hun hd F ⟨v1, v2, p1, p2, p3, p4, p6, H⟩
   have t1 : L 1 = true := by
    cases hb : L 1 with
    | true => rfl
    | false =>
     have hb2 := up 2 1 rfl hb
     have hb3 := up 3 2 rfl hb2
     rw [hd 3 rfl] at hb3; cases hb3
   have t2 : L 2 = true := by
    cases hb : L 2 with
    | true => rfl
    | false =>
     have hb3 := up 3 2 rfl hb
     rw [hd 3 rfl] at hb3; cases hb3
   have t3 : L 3 = true := hd 3 rfl
   have f4 : L 4 = false := hun
   have f6 : L 6 = false := up 6 4 rfl hun
   have G := H; rw [t1, t2] at G
   have F := Fr.add F (p1 t1)
   have F := Fr.add F (p2 t2)
   have F := Fr.add F (p3 t3)
   refine step_on rfl (d_extract (v := v2) F rfl rfl rfl) ?_
   rintro xv w' ⟨hx, rfl⟩
   exact ⟨Cn, ⟨v1, v2, Pk p1, Pk p2, Pk p3, (fun _ => (Sx.put_same F (by decide) _).trans hx), Nf f6, H⟩⟩
  ·intro L A w up hun hd F ⟨v1, v2, p1, p2, p3, p4, p6, H⟩
   have t1 : L 1 = true := by
    cases hb : L 1 with
    | true => rfl
    | false =>
     have hb2 := up 2 1 rfl hb
     have hb3 := up 3 2 rfl hb2
     rw [hd 3 rfl] at hb3; cases hb3
   have t2 : L 2 = true := by
    cases hb : L 2 with
    | true => rfl
    | false =>
     have hb3 := up 3 2 rfl hb
     rw [hd 3 rfl] at hb3; cases hb3
   have t3 : L 3 = true := hd 3 rfl
   have G := H; rw [t1, t2] at G
   have F := Fr.add F (p1 t1)
   have F := Fr.add F (p2 t2)
   have F := Fr.add F (p3 t3)
   refine step_on rfl (d_extract (v := iI 0) F rfl rfl rfl) ?_
   rintro xv w' ⟨hx, rfl⟩
   exact ⟨Cs hx, ⟨v1, v2, Pk p1, Pk p2, Pk p3, Pk p4, Pk p6, H⟩⟩
  ·intro L A w up hun hd F ⟨v1, v2, p1, p2, p3, p4, p6, H⟩
   have t1 : L 1 = true := hd 1 rfl
   have t2 : L 2 = true := hd 2 rfl
   have t3 : L 3 = true := hd 3 rfl
   have t4 : L 4 = true := hd 4 rfl
   have f6 : L 6 = false := hun
   have G := H; rw [t1, t2] at G
   have F := Fr.add F (p1 t1)
   have F := Fr.add F (p2 t2)
   have F := Fr.add F (p3 t3)
   have F := Fr.add F (p4 t4)
   refine step_on rfl (d_move F (Or.inr rfl) rfl) ?_
   rintro xv w' ⟨hx, rfl⟩
   exact ⟨Cn, ⟨v1, v2, Pk p1, Pk p2, Pk p3, Pk p4, (fun _ => (Sx.put_same F (by decide) _).trans hx), H⟩⟩
  ·intro L A w up hun hd F ⟨v1, v2, p1, p2, p3, p4, p6, H⟩
   have t1 : L 1 = true := hd 1 rfl
   have t2 : L 2 = true := hd 2 rfl
   have t3 : L 3 = true := hd 3 rfl
   have t4 : L 4 = true := hd 4 rfl
   have t6 : L 6 = true := hd 6 rfl
   have G := H; rw [t1, t2] at G
   have F := Fr.add F (p1 t1)
   have F := Fr.add F (p2 t2)
   have F := Fr.add F (p3 t3)
   have F := Fr.add F (p4 t4)
   have F := Fr.add F (p6 t6)
   refine step_on rfl (d_move F (Or.inr rfl) rfl) ?_
   rintro xv w' ⟨hx, rfl⟩
   exact ⟨Cs hx, ⟨v1, v2, Pk p1, Pk p2, Pk p3, Pk p4, Pk p6, H⟩⟩
 ·intro L A w hL F ⟨v1, v2, p1, p2, p3, p4, p6, H⟩
  have t1 : L 1 = true := hL 1 rfl
  have t2 : L 2 = true := hL 2 rfl
  have t3 : L 3 = true := hL 3 rfl
  have t4 : L 4 = true := hL 4 rfl
  have t6 : L 6 = true := hL 6 rfl
  rw [t1, t2] at H
  have F := Fr.add F (p1 t1)
  have F := Fr.add F (p2 t2)
  have F := Fr.add F (p3 t3)
  have F := Fr.add F (p4 t4)
  have F := Fr.add F (p6 t6)
  have F := F.tq [(2, nS), (3, v2)] rfl
  refine hK2 _ _ (Sp fun _ kk => ?_)
  iterate 2 (refine Av F ?_; intro A F)
  refine Nl kk (Wr (ret1 F Tryz.results207 (res_tmp F rfl) ?_))
  exact ⟨_, rfl, H.row 1 _ rfl rfl, H.below⟩
open Sx in
theorem xat_1 (la : List (BitVec 64)) (ada : Option Addr) (capa : Nat) (s : St) (hs : la.length ≤ 100) (w0 : World) (hra : Gf.Rd w0 (.slice ada la.length capa) la) : Calls Tryz.prog 206 #[.slice ada la.length capa, (L9 s)] w0 fun e w' => e = .returned (.agg #[iU ((Xj.act (Gf.val la) s).a.toNat), iU ((Xj.act (Gf.val la) s).b.toNat), iU ((Xj.act (Gf.val la) s).c.toNat), iU ((Xj.act (Gf.val la) s).d.toNat)]) ∧ Below w0.heap.size w0 w' := by
 have fewa := hra.few
 have hca := hra.at
 refine En Tryz.func206 Tryz.ntmps206 fun A F => ?_
 have H := Sx.Own.start w0
 refine Sp fun _ kk => Zb F (d_box F H rfl rfl [uN s.a, uN s.b, uN s.c, uN s.d] rfl) fun g1 A w F H => ?_
 refine Zb F (d_alloc H rfl [iU 0, iU 0, iU 0, iU 0] zero_24) fun g2 A w F H => ?_
 refine Nl kk (wp_scope_straight (Sp fun _ kk => Zb F (d_alloc H rfl [iU 0, iU 0, iU 0, iU 0] zero_24) fun g3 A w F H => ?_))
 refine Nl kk (Sp fun _ kk => Av F fun A F => ?_)
 refine Zw F (Dc if_209 F H (gdeg_c _ la (Gf.val la) rfl _ ((hra).below H.below))) fun A w F H => ?_
 refine Av F fun A F => ?_
 refine Sx.nil ?_
 obtain ⟨D, hD, hact⟩ := Xj.deg_act (Gf.val la) s
 rw [hD] at F
 have hdl := Gf.lim_deg (Gf.len_lim (n := 100) hs)
 refine kk _ _ ?_
 refine Sx.seq fun K4 hK4 => wp_label (hK4 _ _ (Sx.seq fun K5 hK5 => Sp fun _ kk => Av F fun A F => ?_))
 refine Nl kk (wp_block (loop (fun q A w => ∃ (k : Nat), q = D - k ∧ k ≤ D ∧ Fr 25 A [(0, .slice ada la.length capa), (3, pT g1 0), (4, pT g2 0), (5, pT g3 0), (6, iI ((D : Int) - 1)), (7, iI k)] ∧ Sx.Own w0 w [(true, g1, (L13 k s)), (true, g3, [iU ((Xj.sum (Gf.val la) s k).a.toNat), iU ((Xj.sum (Gf.val la) s k).b.toNat), iU ((Xj.sum (Gf.val la) s k).c.toNat), iU ((Xj.sum (Gf.val la) s k).d.toNat)]), (true, g2, [uN Xo.zero.a, uN Xo.zero.b, uN Xo.zero.c, uN Xo.zero.d])] []) (D - 0) ⟨0, rfl, Nat.zero_le _, F.to ⟨rfl, rfl, rfl, rfl, rfl, rfl, trivial⟩, H.to' [2, 0, 1] [] (by decide) (by decide) rfl rfl⟩ ?_))
 rintro q A w ⟨k, rfl, hi_k, F, H⟩
 by_cases hlt_k : k < D
 ·skip
  refine Sx.seq fun K7 hK7 => wp_block (Sx.seq fun K8 hK8 => Sp fun _ kk => ?_)
  iterate 2 (refine Av F ?_; intro A F)
  refine Zv F (Bn bF F rfl rfl rfl (i_gt (decide_eq_false (by omega)))) fun A F => ?_
  refine Nl kk (condF F rfl (wp_skip (hK8 _ _ ?_)))
  cases hb : Nat.testBit (Gf.val la) k
  ·have hv : Xj.sum (Gf.val la) s (k + 1) = Xj.sum (Gf.val la) s k := if_neg (by rw [hb]; decide)
   refine Sx.seq fun K10 hK10 => Sp fun _ kk => ?_
   iterate 2 (refine Av F ?_; intro A F)
   refine Zw F (Dc if_210 F H (gbit_c k _ la (Gf.val la) rfl _ (by omega) ((hra).below H.below))) fun A w F H => ?_
   refine Zv F (Bn bF F rfl rfl rfl (i_eq (by rw [hb]; rfl))) fun A F => ?_
   refine Nl kk (condF F rfl (wp_skip (hK10 _ _ (Sx.plain ?_))))
   refine Av F fun A F => ?_
   refine Zw F (Dc if_204 F H (xstep_c (Xo.it k s) _)) fun A w F H => ?_
   refine Zs 0 (L14 k s) sz_24 F H fun A w F H => ?_
   refine Sx.nil (hK7 _ _ (Sx.plain ?_))
   refine Av F fun A F => ?_
   refine Zv F (Bn (iI (k + 1 : Nat)) F rfl rfl rfl (i_addN rfl (in_i64 _ (by omega)))) fun A F => ?_
   refine Av F fun A F => ?_
   refine Sx.nil ?_
   try dsimp only [Exit.then, Exit.noGoto]
   exact ⟨D - (k + 1), by omega, k + 1, rfl, by omega, F.to ⟨rfl, rfl, rfl, rfl, rfl, rfl, trivial⟩, by rw [hv]; exact H⟩
  ·have hv : Xj.sum (Gf.val la) s (k + 1) = Xo.add (Xj.sum (Gf.val la) s k) (Xo.it k s) := if_pos hb
   refine Sx.seq fun K12 hK12 => Sp fun _ kk => ?_
   iterate 2 (refine Av F ?_; intro A F)
   refine Zw F (Dc if_210 F H (gbit_c k _ la (Gf.val la) rfl _ (by omega) ((hra).below H.below))) fun A w F H => ?_
   refine Zv F (Bn bT F rfl rfl rfl (i_eq (by rw [hb]; rfl))) fun A F => ?_
   refine Nl kk (condT F rfl (Sx.plain ?_))
   iterate 2 (refine Av F ?_; intro A F)
   refine Zw F (Dc if_211 F H (xadd_c (Xj.sum (Gf.val la) s k) (Xo.it k s) _)) fun A w F H => ?_
   refine Zs 1 [iU ((Xo.add (Xj.sum (Gf.val la) s k) (Xo.it k s)).a.toNat), iU ((Xo.add (Xj.sum (Gf.val la) s k) (Xo.it k s)).b.toNat), iU ((Xo.add (Xj.sum (Gf.val la) s k) (Xo.it k s)).c.toNat), iU ((Xo.add (Xj.sum (Gf.val la) s k) (Xo.it k s)).d.toNat)] sz_24 F H fun A w F H => ?_
   refine Sx.nil (hK12 _ _ (Sx.plain ?_))
   refine Av F fun A F => ?_
   refine Zw F (Dc if_204 F H (xstep_c (Xo.it k s) _)) fun A w F H => ?_
   refine Zs 0 (L14 k s) sz_24 F H fun A w F H => ?_
   refine Sx.nil (hK7 _ _ (Sx.plain ?_))
   refine Av F fun A F => ?_
   refine Zv F (Bn (iI (k + 1 : Nat)) F rfl rfl rfl (i_addN rfl (in_i64 _ (by omega)))) fun A F => ?_
   refine Av F fun A F => ?_
   refine Sx.nil ?_
   try dsimp only [Exit.then, Exit.noGoto]
   exact ⟨D - (k + 1), by omega, k + 1, rfl, by omega, F.to ⟨rfl, rfl, rfl, rfl, rfl, rfl, trivial⟩, by rw [hv]; exact H⟩
 ·have hie_k : D = k := by omega
  subst hie_k
  refine Sx.seq fun K14 hK14 => wp_block (Sx.seq fun K15 hK15 => Sp fun _ kk => ?_)
  iterate 2 (refine Av F ?_; intro A F)
  refine Zv F (Bn bT F rfl rfl rfl (i_gt (decide_eq_true (by omega)))) fun A F => ?_
  refine Nl kk (condT F rfl (wp_exit ?_))
  try dsimp only [Exit.then, Exit.jump, Exit.noGoto]
  refine exit_past (by decide) ?_
  try dsimp only [Exit.then, Exit.jump, Exit.noGoto]
  refine exit_here (hK5 _ _ (Sp fun _ kk => Av F fun A F => ?_))
  refine Zs 2 [iU ((Xj.sum (Gf.val la) s D).a.toNat), iU ((Xj.sum (Gf.val la) s D).b.toNat), iU ((Xj.sum (Gf.val la) s D).c.toNat), iU ((Xj.sum (Gf.val la) s D).d.toNat)] sz_24 F H fun A w F H => ?_
  refine Nl kk (Wr (ret1 F Tryz.results206 (res_row (i := 2) (xs := [iU ((Xj.sum (Gf.val la) s D).a.toNat), iU ((Xj.sum (Gf.val la) s D).b.toNat), iU ((Xj.sum (Gf.val la) s D).c.toNat), iU ((Xj.sum (Gf.val la) s D).d.toNat)]) rw_24 F H rfl rfl rfl rfl) ?_))
  rw [hact]
  exact ⟨rfl, H.below⟩
theorem xat_c (s : St) (v : Value) (l : List (BitVec 64)) (p : Nat) (hp : Gf.val l = p) (hs : l.length ≤ 100) (w : World) (h : Gf.Rd w v l) : Calls Tryz.prog 206 #[v, .agg #[.int .u64 s.a.toNat, .int .u64 s.b.toNat, .int .u64 s.c.toNat, .int .u64 s.d.toNat]] w fun e w' => e = .returned (.agg #[.int .u64 ((Xj.act p s).a.toNat), .int .u64 ((Xj.act p s).b.toNat), .int .u64 ((Xj.act p s).c.toNat), .int .u64 ((Xj.act p s).d.toNat)]) ∧ Below w.heap.size w w' := by
  obtain ⟨ada, capa, rfl⟩ := h.form
  subst hp
  exact xat_1 l ada capa s hs w h
abbrev L15 (x0 : BitVec 128) (x1 : St) : Value := .agg #[iU ((Xo.it x0.toNat x1).a.toNat), iU ((Xo.it x0.toNat x1).b.toNat), iU ((Xo.it x0.toNat x1).c.toNat), iU ((Xo.it x0.toNat x1).d.toNat)]
abbrev L16 (x0 : BitVec 128) (x1 : St) : List Value := [iU ((Xj.act (Gf.pw (1 <<< 1) Xj.rule x0) x1).a.toNat), iU ((Xj.act (Gf.pw (1 <<< 1) Xj.rule x0) x1).b.toNat), iU ((Xj.act (Gf.pw (1 <<< 1) Xj.rule x0) x1).c.toNat), iU ((Xj.act (Gf.pw (1 <<< 1) Xj.rule x0) x1).d.toNat)]
open Sx in
theorem xjump_c (s : St) (x : BitVec 128) (hr : Xj.right s = true) (w0 : World) : Calls Tryz.prog 202 #[(L9 s), .agg #[uH x, uL x]] w0 fun e w' => e = .returned (.tuple #[(L15 x s), iI 0]) ∧ Below w0.heap.size w0 w' := by
 have hlp : (Gf.ws (Gf.pw (1 <<< 1) Xj.rule x)).length ≤ 5 := Gf.lim_len (Gf.pws_lim Xj.rule_kills.1 Xj.rule_lim _ _)
 refine En Tryz.func202 Tryz.ntmps202 fun A F => ?_
 have H := Sx.Own.start w0
 refine Sp fun _ kk => Zb F (d_box F H rfl rfl [uN s.a, uN s.b, uN s.c, uN s.d] rfl) fun g1 A w F H => ?_
 refine Zb F (d_box F H rfl rfl [uH x, uL x] rfl) fun g2 A w F H => ?_
 refine Zb F (d_alloc H rfl [iU 0, iU 0, iU 0, iU 0] zero_24) fun g3 A w F H => ?_
 refine Av F fun A F => ?_
 refine Nl kk (Sx.seq fun K2 hK2 => Sp fun _ kk => Av F fun A F => ?_)
 refine Zw F (Dc (v := bT) if_203 F H (Calls.val (xright_c s _) rfl (by rw [show Xj.right s = true from hr]))) fun A w F H => ?_
 refine Zv F (d_un (v := bF) F rfl rfl rfl) fun A F => ?_
 refine Nl kk (condF F rfl (wp_skip (hK2 _ _ (Sx.seq fun K4 hK4 => ?_))))
 have F := F.tq [(0, (L9 s)), (1, .agg #[uH x, uL x]), (2, pT g1 0), (3, pT g2 0), (4, pT g3 0), (6, (L9 s)), (7, bT), (8, bF)] rfl
 refine Dn F [some (.agg #[uH x, uL x]), none, some (L9 s), some (.agg #[iU ((Xj.act (Gf.pw (1 <<< 1) Xj.rule x) s).a.toNat), iU ((Xj.act (Gf.pw (1 <<< 1) Xj.rule x) s).b.toNat), iU ((Xj.act (Gf.pw (1 <<< 1) Xj.rule x) s).c.toNat), iU ((Xj.act (Gf.pw (1 <<< 1) Xj.rule x) s).d.toNat)]), none, some (iI 0)] (fun L A w => ∃ v1 : Value, (L 1 = true → A.eval (.tmp 11) = v1) ∧ Sx.Own w0 w [(true, g3, (cond (L 4) (L16 x s) [iU 0, iU 0, iU 0, iU 0])), (true, g2, [uH x, uL x]), (true, g1, [uN s.a, uN s.b, uN s.c, uN s.d])] [⟨L 1, v1, 22, 1, (Gf.ws (Gf.pw (1 <<< 1) Xj.rule x)).length, (Gf.cells (Gf.ws (Gf.pw (1 <<< 1) Xj.rule x)))⟩]) ⟨undef, (fun h => by cases h), H.drew.pad [] rfl [⟨false, undef, 22, 1, (Gf.ws (Gf.pw (1 <<< 1) Xj.rule x)).length, (Gf.cells (Gf.ws (Gf.pw (1 <<< 1) Xj.rule x)))⟩] rfl⟩ ?_ ?_
 ·refine ⟨?_, ?_, ?_, ?_, ?_, ?_, trivial⟩
  ·intro L A w up hun hd F ⟨v1, p1, H⟩
   have f1 : L 1 = false := up 1 0 rfl hun
   have f4 : L 4 = false := up 4 0 rfl hun
   have G := H; rw [f1, f4] at G
   refine step_on rfl (Lr 1 [uH x, uL x] rw_26 F G) ?_
   rintro xv w' ⟨hx, rfl⟩
   exact ⟨Cs hx, ⟨v1, Nf f1, H⟩⟩
  ·intro L A w up hun hd F ⟨v1, p1, H⟩
   have f1 : L 1 = false := hun
   have f4 : L 4 = false := up 4 1 rfl hun
   rw [f1, f4] at H
   refine step_on rfl (d_callR_at 0 (vs := [.agg #[uH x, uL x]]) (mk := fun v => v) if_207 F H rfl rfl (xpoly_c x _)) ?_
   rintro xv w' ⟨v', hx, H⟩
   exact ⟨Cn, ⟨v', (fun _ => (Sx.put_same F (by decide) _).trans hx), (by show Sx.Own _ _ _ _; rw [show Inv.add L 1 4 = false from f4]; exact H)⟩⟩
  ·exact SV (fun _ _ _ F ⟨v1, p1, H⟩ => Lr 2 [uN s.a, uN s.b, uN s.c, uN s.d] rw_24 F H) (fun _ _ _ _ ⟨v1, p1, H⟩ => ⟨v1, Pk p1, H⟩)
  ·intro L A w up hun hd F ⟨v1, p1, H⟩
   have t1 : L 1 = true := hd 1 rfl
   have f4 : L 4 = false := up 4 3 rfl hun
   rw [t1, f4] at H
   have F := Fr.add F (p1 t1)
   refine step_on rfl (Dc if_206 F H (xat_c s _ (Gf.ws (Gf.pw (1 <<< 1) Xj.rule x)) (Gf.pw (1 <<< 1) Xj.rule x) (Gf.val_ws _) (by omega) _ (Gf.Rd.row (H.row 0 _ rfl rfl) rfl rfl (by omega)))) ?_
   rintro xv w' ⟨hx, H⟩
   exact ⟨Cs hx, ⟨v1, Pk p1, (by show Sx.Own _ _ _ _; rw [show Inv.add L 3 1 = true from t1, show Inv.add L 3 4 = false from f4]; exact H)⟩⟩
  ·intro L A w up hun hd F ⟨v1, p1, H⟩
   have t1 : L 1 = true := hd 1 rfl
   have f4 : L 4 = false := hun
   rw [t1, f4] at H
   have F := Fr.add F (p1 t1)
   refine step_on rfl (d_store (i := 0) (xs := (L16 x s)) (us := (L16 x s)) sz_24 F H rfl rfl rfl rfl rfl rfl rfl (Nat.le_of_ble_eq_true rfl) rfl) ?_
   intro xv w' H
   exact ⟨Cn, ⟨v1, p1, (by show Sx.Own _ _ _ _; rw [show Inv.add L 4 1 = true from t1]; exact H)⟩⟩
  ·intro L A w up hun hd F ⟨v1, p1, H⟩
   have t1 : L 1 = true := hd 1 rfl
   have t4 : L 4 = true := hd 4 rfl
   have G := H; rw [t1, t4] at G
   have F := Fr.add F (p1 t1)
   refine step_on rfl (d_move F (Or.inr rfl) rfl) ?_
   rintro xv w' ⟨hx, rfl⟩
   exact ⟨Cs hx, ⟨v1, Pk p1, H⟩⟩
 ·intro L A w hL F ⟨v1, p1, H⟩
  have t1 : L 1 = true := hL 1 rfl
  have t4 : L 4 = true := hL 4 rfl
  rw [t1, t4] at H
  have F := Fr.add F (p1 t1)
  have F := F.tq [(4, pT g3 0), (5, iI 0)] rfl
  refine hK4 _ _ (Wr (ret2 F Tryz.results202 (res_row (i := 0) (xs := [iU ((Xj.act (Gf.pw (1 <<< 1) Xj.rule x) s).a.toNat), iU ((Xj.act (Gf.pw (1 <<< 1) Xj.rule x) s).b.toNat), iU ((Xj.act (Gf.pw (1 <<< 1) Xj.rule x) s).c.toNat), iU ((Xj.act (Gf.pw (1 <<< 1) Xj.rule x) s).d.toNat)]) rw_24 F H rfl rfl rfl rfl) (res_tmp F rfl) ?_))
  rw [Xj.act_pw Xj.rule_kills]
  exact ⟨rfl, H.below⟩
section
namespace Mt
def row (s : St) : List Value := [.int .u64 (s.a.toNat : Nat), .int .u64 (s.b.toNat : Nat), .int .u64 (s.c.toNat : Nat), .int .u64 (s.d.toNat : Nat)]
def fl (f : Nat → St) : Nat → Nat → List Value
  | _, 0 => []
  | i, n + 1 => row (f i) ++ fl f (i + 1) n
def cells (f : Nat → St) : List Value := fl f 0 256
def upd (f : Nat → St) (k : Nat) (s : St) : Nat → St := fun j => if j = k then s else f j
theorem fl_len (f : Nat → St) : ∀ n i, (fl f i n).length = n * 4
  | 0, _ => rfl
  | n + 1, i => by show (row (f i) ++ fl f (i + 1) n).length = _; rw [List.length_append, fl_len f n]; show 4 + n * 4 = _; omega
theorem len (f : Nat → St) : (cells f).length = 1024 := fl_len f 256 0
theorem fl_ones (f : Nat → St) : ∀ n i, Sx.ones (fl f i n) = true
  | 0, _ => rfl
  | n + 1, i => fl_ones f n (i + 1)
theorem ones (f : Nat → St) : Sx.ones (cells f) = true := fl_ones f 256 0
theorem fl_congr {f g : Nat → St} : ∀ n i, (∀ j, i ≤ j → j < i + n → f j = g j) → fl f i n = fl g i n
  | 0, _, _ => rfl
  | n + 1, i, h => by
    show row (f i) ++ fl f (i + 1) n = row (g i) ++ fl g (i + 1) n
    rw [h i (Nat.le_refl _) (by omega), fl_congr n (i + 1) (fun j h1 h2 => h j (by omega) (by omega))]
theorem congr {f g : Nat → St} (h : ∀ j, j < 256 → f j = g j) : cells f = cells g := fl_congr 256 0 fun j _ h2 => h j (by omega)
theorem fl_drop (f : Nat → St) : ∀ k n i, k ≤ n → (fl f i n).drop (k * 4) = fl f (i + k) (n - k)
  | 0, _, _, _ => by rw [Nat.zero_mul, List.drop_zero]; rfl
  | k + 1, 0, _, h => by omega
  | k + 1, n + 1, i, h => by
    show (row (f i) ++ fl f (i + 1) n).drop ((k + 1) * 4) = _
    rw [show (k + 1) * 4 = (row (f i)).length + k * 4 from by show _ = 4 + k * 4; omega, List.drop_length_add_append, fl_drop f k n (i + 1) (by omega), show i + 1 + k = i + (k + 1) from by omega, show n + 1 - (k + 1) = n - k from by omega]
theorem at_ (f : Nat → St) {k : Nat} (h : k < 256) : ((cells f).drop (k * 4)).take 4 = row (f k) := by
  unfold cells
  rw [fl_drop f k 256 0 (by omega), Nat.zero_add, show 256 - k = (255 - k) + 1 from by omega]
  show (row (f k) ++ _).take 4 = _
  exact List.take_left' (by rfl)
theorem all (f : Nat → St) : ((cells f).drop 0).take 1024 = cells f := by rw [List.drop_zero]; exact List.take_of_length_le (by rw [len]; exact Nat.le_refl _)
theorem splice_all (f g : Nat → St) : Sx.splice (cells g) 0 (cells f) = cells f := by
  unfold Sx.splice
  rw [List.take_zero, List.nil_append, len, List.drop_of_length_le (by rw [len]; omega), List.append_nil]
theorem fl_splice (f : Nat → St) (s : St) : ∀ k n i, k < n → Sx.splice (fl f i n) (k * 4) (row s) = fl (upd f (i + k) s) i n
  | _, 0, _, h => by omega
  | 0, n + 1, i, _ => by
    show Sx.splice (row (f i) ++ fl f (i + 1) n) 0 (row s) = row (upd f i s i) ++ fl (upd f i s) (i + 1) n
    unfold Sx.splice
    rw [List.take_zero, List.nil_append, show 0 + (row s).length = (row (f i)).length from rfl, List.drop_left, show upd f i s i = s from if_pos rfl]
    congr 1
    exact fl_congr n (i + 1) fun j h1 h2 => (if_neg (by omega)).symm
  | k + 1, n + 1, i, h => by
    have ih := fl_splice f s k n (i + 1) (by omega)
    show Sx.splice (row (f i) ++ fl f (i + 1) n) ((k + 1) * 4) (row s) = row (upd f (i + (k + 1)) s i) ++ fl (upd f (i + (k + 1)) s) (i + 1) n
    rw [show i + (k + 1) = i + 1 + k from by omega, ← ih, show upd f (i + 1 + k) s i = f i from if_neg (by omega)]
    unfold Sx.splice
    rw [show (k + 1) * 4 = (row (f i)).length + k * 4 from by show _ = 4 + k * 4; omega, List.take_length_add_append, show (row (f i)).length + k * 4 + (row s).length = (row (f i)).length + (k * 4 + (row s).length) from by omega, List.drop_length_add_append, List.append_assoc]
theorem splice (f : Nat → St) (s : St) {k : Nat} (h : k < 256) : Sx.splice (cells f) (k * 4) (row s) = cells (upd f k s) := by
  have := fl_splice f s k 256 0 h
  rw [Nat.zero_add] at this
  exact this
def fill (f : Nat → St) (k : Nat) : Nat → St := fun j => if j < k then f j else Xo.zero
theorem fill_upd (f : Nat → St) (k : Nat) : upd (fill f k) k (f k) = fill f (k + 1) := by
  funext j
  unfold upd fill
  by_cases e : j = k
  · subst e; rw [if_pos rfl, if_pos (Nat.lt_succ_self j)]
  · rw [if_neg e]
    by_cases h : j < k
    · rw [if_pos h, if_pos (by omega)]
    · rw [if_neg h, if_neg (by omega)]
theorem fill_zero (f : Nat → St) : fill f 0 = fun _ => Xo.zero := by funext j; exact if_neg (Nat.not_lt_zero j)
theorem fill_all (f : Nat → St) : cells (fill f 256) = cells f := congr fun j h => if_pos h
theorem zeroM : Sx.zeroIs Tryz.prog 102 (cells (fun _ => Xo.zero)) := ⟨.agg (cells (fun _ => Xo.zero)).toArray, rfl, fun _ => by kernel_rfl⟩
theorem buildM (w : World) : (Instr.build 102 #[]).run Tryz.prog w = .ok (.agg (cells (fun _ => Xo.zero)).toArray) w := by kernel_rfl
theorem ixM (b i : Nat) (h : i < 256) (w : World) : (Instr.indexAt 102 (.pointer (some ⟨b, 0, none⟩)) (.int .i64 (i : Nat))).run Tryz.prog w = .ok (.pointer (some ⟨b, i * 4, none⟩)) w := by
  have hu : Tryz.prog.underlying 102 = some (.array (Tryz.prog.arrayLen 102) (Tryz.prog.elem 102)) := by kernel_rfl
  have hl : Tryz.prog.arrayLen 102 = 256 := by kernel_rfl
  have hs : (sizeOf (Tryz.prog.elem 102)).run Tryz.prog w = .ok 4 w := by kernel_rfl
  rw [run_indexAt_array (h := hu), hl, if_pos ⟨by omega, by omega⟩, hs, Result.andThen_ok, Int.toNat_natCast]
  rw [Addr.add_mid, Nat.zero_add]
def At (w : World) (b : Nat) (f : Nat → St) : Prop := ∀ j u, (cells f)[j]? = some u → w.cell? ⟨b, j, none⟩ = some u
theorem At.row {w : World} {b : Nat} {f : Nat → St} (h : At w b f) {i : Nat} (hi : i < 256) : w.cell? ⟨b, i * 4, none⟩ = some (.int .u64 ((f i).a.toNat : Nat)) ∧ w.cell? ⟨b, i * 4 + 1, none⟩ = some (.int .u64 ((f i).b.toNat : Nat)) ∧ w.cell? ⟨b, i * 4 + 2, none⟩ = some (.int .u64 ((f i).c.toNat : Nat)) ∧ w.cell? ⟨b, i * 4 + 3, none⟩ = some (.int .u64 ((f i).d.toNat : Nat)) := by
  have hr := at_ f hi
  have key : ∀ q, q < 4 → (cells f)[i * 4 + q]? = (Mt.row (f i))[q]? := fun q hq => by
    rw [← hr, List.getElem?_take, if_pos hq, List.getElem?_drop]
  exact ⟨h _ _ ((key 0 (by decide)).trans rfl), h _ _ ((key 1 (by decide)).trans rfl), h _ _ ((key 2 (by decide)).trans rfl), h _ _ ((key 3 (by decide)).trans rfl)⟩
theorem At.box {w : World} {b : Nat} {f : Nat → St} (h : BoxAt w b (cells f)) : At w b f := fun j u hj => (h j u hj).1
end Mt
namespace Sx
variable {P : Program} {ds : List Deferred} {w0 w : World} {a : Act} {o : Oper} {n : Nat} {kv : List (Nat × Value)} {bs : List Bx} {rs : List Rx} {K : Nat → Option Obj}
theorem d_loadF4 {T : TypeId} {x : Operand} {b k : Nat} {c0 c1 c2 c3 : Value} (hT : rowT P T 4) (F : Fr n a kv ds) (H : Own w0 w bs rs K) (ho : o.op = .load T x) (hx : ev kv x = some (.pointer (some ⟨b, k, none⟩))) (h : w0.cell? ⟨b, k, none⟩ = some c0 ∧ w0.cell? ⟨b, k + 1, none⟩ = some c1 ∧ w0.cell? ⟨b, k + 2, none⟩ = some c2 ∧ w0.cell? ⟨b, k + 3, none⟩ = some c3) :
    Does P o a w (fun x w' => x = .agg #[c0, c1, c2, c3] ∧ w' = w) := by
  obtain ⟨h0, h1, h2, h3⟩ := h
  obtain ⟨⟨d, hu, hd⟩, hs⟩ := hT.row
  have l0 : w.cell? ⟨b, k, none⟩ = some c0 := (H.below.cell (p := ⟨b, k, none⟩) (lt_cell h0)).trans h0
  have l1 : w.cell? ⟨b, k + 1, none⟩ = some c1 := (H.below.cell (p := ⟨b, k + 1, none⟩) (lt_cell h1)).trans h1
  have l2 : w.cell? ⟨b, k + 2, none⟩ = some c2 := (H.below.cell (p := ⟨b, k + 2, none⟩) (lt_cell h2)).trans h2
  have l3 : w.cell? ⟨b, k + 3, none⟩ = some c3 := (H.below.cell (p := ⟨b, k + 3, none⟩) (lt_cell h3)).trans h3
  refine does_run ?_
  have hr := run_loadAt_mid (P := P) w b k T [c0, c1, c2, c3] d (fun j u hj => by
    match j, hj with
    | 0, hj => rw [← Option.some.inj hj]; exact l0
    | 1, hj => rw [← Option.some.inj hj]; exact l1
    | 2, hj => rw [← Option.some.inj hj]; exact l2
    | 3, hj => rw [← Option.some.inj hj]; exact l3
    | j + 4, hj => cases hj) hu hd (by rw [hs]; rfl)
  unfold execOp; rw [ho]; simp only [F.ev hx, Sem.run_bind, hr]; rfl
end Sx
end
end Go.Proofs.YteecadoakmdibaaGreat
