/- What the proof of TopJump leans on: part 9. -/
import Derived.Test.YteecadoakmdibaaGreatQ2
import Derived.Test.YteecadoakmdibaaGreatQ3
import Derived.Test.YteecadoakmdibaaGreatQ4
import Derived.Test.YteecadoakmdibaaGreatQ5
import Derived.Test.YteecadoakmdibaaGreatQ7
import Derived.Test.YteecadoakmdibaaGreatQ8
import Derived.MapKept
import Derived.ChangeMaps5
import GoSem.Op.String
import Derived.Laws.IdiomCopy
import Derived.Defers
set_option maxRecDepth 100000
set_option maxHeartbeats 4000000
namespace Go.Proofs.YteecadoakmdibaaGreat
open Go Go.RowKit
open Sx in
theorem rfar12_t (dc : BitVec 128) (k0 k1 : BitVec 32) (n : BitVec 128) (w0 : World) : Calls Tryz.prog 13 #[(L50 dc k0 k1), .agg #[uH n, uL n]] w0 fun e w' => e = .returned (.agg #[uH ((Hf.jump ⟨dc, k0, k1, true⟩ n).c), uL ((Hf.jump ⟨dc, k0, k1, true⟩ n).c), iW (((Hf.jump ⟨dc, k0, k1, true⟩ n).k0).toNat), iW (((Hf.jump ⟨dc, k0, k1, true⟩ n).k1).toNat), .bool ((Hf.jump ⟨dc, k0, k1, true⟩ n).b)]) ∧ Below w0.heap.size w0 w' := by
 refine En Tryz.func13 Tryz.ntmps13 fun A F => ?_
 have H := Sx.Own.start w0
 refine Sp fun _ kk => Zb F (d_box F H rfl rfl (L51 dc k0 k1) rfl) fun g1 A w F H => ?_
 refine Zb F (d_box F H rfl rfl [uH n, uL n] rfl) fun g2 A w F H => ?_
 refine Zb F (d_alloc H rfl L5 zero_45) fun g3 A w F H => ?_
 refine Nl kk (Sp fun _ kk => Av F fun A F => ?_)
 refine Nl kk (Sx.seq fun K3 hK3 => Sp fun _ kk => ?_)
 iterate 2 (refine Av F ?_; intro A F)
 refine Nl kk (condT F rfl (Sx.plain ?_))
 refine Av F fun A F => ?_
 refine Sx.nil (hK3 _ _ (Sp fun _ kk => Av F fun A F => ?_))
 refine Zr (mk := fun v => v) F (d_litR (qs := #[(0, iI 1)]) (cs := #[iI 1]) (E := 3) (z := 1) F H rfl rfl (fun _ => by kernel_rfl) rfl (by decide)) fun v1 A w F H => ?_
 iterate 2 (refine Av F ?_; intro A F)
 refine Zr (mk := fun v => v) F (d_callR (vs := [.agg #[uH dc, uL dc]]) (mk := fun v => v) if_12 F H rfl rfl (rlist_c dc _)) fun v2 A w F H => ?_
 refine Zr (mk := fun v => v) F (d_appendR (i := 1) (j := 0) el_54 F H rfl rfl rfl rfl rfl (Bi.ones _ _) rfl (by omega) (by decide)) fun v3 A w F H => ?_
 refine Av F fun A F => ?_
 refine Nl kk (Sp fun _ kk => Zr (mk := fun v => v) F (d_litR (qs := #[]) (cs := #[]) (E := 3) (z := 1) F H rfl rfl (fun _ => by kernel_rfl) rfl (by decide)) fun v4 A w F H => ?_)
 refine Av F fun A F => ?_
 refine Zr (mk := fun v => v) F (d_callR (vs := [.agg #[uH n, uL n]]) (mk := fun v => v) if_12 F H rfl rfl (rlist_c n _)) fun v5 A w F H => ?_
 refine Zr (mk := fun v => v) F (d_appendR (i := 1) (j := 0) el_54 F H rfl rfl rfl rfl rfl (Bi.ones _ _) rfl (by omega) (by decide)) fun v6 A w F H => ?_
 refine Zg (mk := fun g => sL g 0 1 1) F (d_lit (qs := #[(0, iI 0)]) (cs := #[iI 0]) (E := 3) F H rfl rfl (fun _ => by kernel_rfl)) fun g4 A w F H => ?_
 refine Zr (mk := fun v => v) F (d_append (i := 1) (j := 0) el_54 F H rfl rfl rfl rfl rfl rfl rfl rfl (by omega) (by decide)) fun v7 A w F H => ?_
 refine Av F fun A F => ?_
 refine Nl kk (Sp fun _ kk => ?_)
 iterate 2 (refine Av F ?_; intro A F)
 refine Zr (mk := fun v => v) F (d_callR (vs := [v3, v7]) (mk := fun v => v) if_38 F H rfl rfl (rsum_c (BitVec.getLsbD (Hf.bigA dc true)) (BitVec.getLsbD (Hf.bigB n)) _ _ (m := 129) (by decide) _ (Bi.Rd.row (rowEq (H.row 3 _ rfl rfl) rfl rfl rfl rfl (Hf.rowA dc true)) (by decide)) (Bi.Rd.row (rowEq (H.row 1 _ rfl rfl) rfl rfl rfl rfl (Hf.rowB n)) (by decide)))) fun v8 A w F H => ?_
 refine Av F fun A F => ?_
 refine Sx.nil ?_
 obtain ⟨lg, lc, rfl, hc1, hc2⟩ := H.open (i := 0) rfl (by omega)
 replace H : Sx.Own w0 w [(true, g4, [iI 0]), (true, g3, L5), (true, g2, [uH n, uL n]), (true, g1, (L51 dc k0 k1))] [⟨true, sL lg 0 130 lc, 3, 1, 130, (Bi.bis (Hf.sumf dc true n) 130)⟩] := H.to' [0, 1, 2, 3] [0] (by decide) (by decide) rfl rfl
 refine kk _ _ ?_
 refine Sx.seq fun K8 hK8 => ?_
 have F := F.tq [(0, (L50 dc k0 k1)), (1, .agg #[uH n, uL n]), (2, pT g1 0), (3, pT g2 0), (4, pT g3 0), (5, iI 1), (9, pT g1 4), (10, bT), (11, iI 1), (12, v1), (13, pT g1 0), (14, .agg #[uH dc, uL dc]), (15, v2), (16, v3), (6, v3), (17, v4), (18, .agg #[uH n, uL n]), (19, v5), (20, v6), (21, sL g4 0 1 1), (22, v7), (7, v7), (23, v3), (24, v7), (25, sL lg 0 130 lc), (8, sL lg 0 130 lc)] rfl
 refine Dn F [some (sL lg 0 130 lc), some (sL lg 1 128 (lc - 1)), some (.agg #[uH (Bi.of (Hf.farb dc true n) 128), uL (Bi.of (Hf.farb dc true n) 128)]), some (pT g1 2), some (.agg #[iW k0.toNat, iW k1.toNat]), some (sL lg 0 130 lc), some (pT lg 0), some (iI (((Hf.sumf dc true n) 0).toNat)), some (.bool ((((Hf.sumf dc true n) 0).toNat : Int) == 1)), some (.agg #[uH (Bi.of (Hf.farb dc true n) 128), uL (Bi.of (Hf.farb dc true n) 128), iW k0.toNat, iW k1.toNat, .bool ((((Hf.sumf dc true n) 0).toNat : Int) == 1)]), none] (fun L A w => Sx.Own w0 w [(true, g4, [iI 0]), (true, g3, (cond (L 10) [uH (Bi.of (Hf.farb dc true n) 128), uL (Bi.of (Hf.farb dc true n) 128), iW k0.toNat, iW k1.toNat, .bool ((((Hf.sumf dc true n) 0).toNat : Int) == 1)] L5)), (true, g2, [uH n, uL n]), (true, g1, (L51 dc k0 k1))] [⟨true, sL lg 0 130 lc, 3, 1, 130, (Bi.bis (Hf.sumf dc true n) 130)⟩]) H.drew ?_ ?_
 ·refine ⟨?_, ?_, ?_, ?_, ?_, ?_, ?_, ?_, ?_, ?_, ?_, trivial⟩
  ·exact Sa
  ·exact SV (fun _ _ _ F _ => d_sliceLH (l := 1) (h := 129) el_54 F rfl rfl rfl rfl rfl rfl (by decide) (by omega) (by omega) rfl rfl rfl)
  ·intro L A w up hun hd F H
   have f10 : L 10 = false := up 10 2 rfl hun
   rw [f10] at H
   refine step_on rfl (Dc if_39 F H (rof_c (Hf.farb dc true n) _ _ _ (Bi.Rd.congr (Bi.Rd.part (f := Hf.sumf dc true n) (Bi.Rd.row (H.row 0 _ rfl rfl) (by decide)) 1 128 (by decide) _ 1 rfl) (Hf.far_at dc true n)))) ?_
   rintro xv w' ⟨hx, H⟩
   exact ⟨Cs hx, (by show Sx.Own _ _ _ _; rw [show Inv.add L 2 10 = false from f10]; exact H)⟩
  ·exact Sa
  ·exact SV (fun _ _ _ F H => Lr 3 [iW k0.toNat, iW k1.toNat] rw_30 F H)
  ·exact Sa
  ·exact SV (fun _ _ _ F _ => d_ixR (k := 0) el_54 F rfl rfl rfl (rfl) (by omega))
  ·intro L A w up hun hd F H
   have f10 : L 10 = false := up 10 7 rfl hun
   have G := H; rw [f10] at G
   refine step_on rfl (d_loadR (i := 0) (v := iI (((Hf.sumf dc true n) 0).toNat)) one_3 F G rfl rfl rfl (Bi.at_ _ _ _ (by omega))) ?_
   rintro xv w' ⟨hx, rfl⟩
   exact ⟨Cs hx, H⟩
  ·exact SV (fun _ _ _ F _ => Bn (.bool ((((Hf.sumf dc true n) 0).toNat : Int) == 1)) F rfl rfl rfl (i_eq rfl))
  ·exact SV (fun _ _ _ F _ => d_build (qs := #[(0, .agg #[uH (Bi.of (Hf.farb dc true n) 128), uL (Bi.of (Hf.farb dc true n) 128)]), (1, .agg #[iW k0.toNat, iW k1.toNat]), (2, .bool ((((Hf.sumf dc true n) 0).toNat : Int) == 1))]) (v := .agg #[uH (Bi.of (Hf.farb dc true n) 128), uL (Bi.of (Hf.farb dc true n) 128), iW k0.toNat, iW k1.toNat, .bool ((((Hf.sumf dc true n) 0).toNat : Int) == 1)]) F rfl rfl (by kernel_rfl))
  ·intro L A w up hun hd F H
   have f10 : L 10 = false := hun
   rw [f10] at H
   refine step_on rfl (d_store (i := 1) (xs := [uH (Bi.of (Hf.farb dc true n) 128), uL (Bi.of (Hf.farb dc true n) 128), iW k0.toNat, iW k1.toNat, .bool ((((Hf.sumf dc true n) 0).toNat : Int) == 1)]) (us := [uH (Bi.of (Hf.farb dc true n) 128), uL (Bi.of (Hf.farb dc true n) 128), iW k0.toNat, iW k1.toNat, .bool ((((Hf.sumf dc true n) 0).toNat : Int) == 1)]) sz_45 F H rfl rfl rfl rfl rfl rfl rfl (Nat.le_of_ble_eq_true rfl) rfl) ?_
   intro xv w' H
   exact ⟨Cn, H⟩
 ·intro L A w hL F H
  have t10 : L 10 = true := hL 10 rfl
  rw [t10] at H
  have F := F.tq [(4, pT g3 0)] rfl
  refine hK8 _ _ (wp_ret ?_)
  try dsimp only [Exit.then, Exit.inBlock, Exit.jump]
  refine ret1 F Tryz.results13 (res_row (i := 1) (xs := [uH (Bi.of (Hf.farb dc true n) 128), uL (Bi.of (Hf.farb dc true n) 128), iW k0.toNat, iW k1.toNat, .bool ((((Hf.sumf dc true n) 0).toNat : Int) == 1)]) rw_45 F H rfl rfl rfl rfl) ⟨?_, H.below⟩
  rw [← Hf.far_eq dc k0 k1 true n]
open Sx in
theorem rfar12_f (dc : BitVec 128) (k0 k1 : BitVec 32) (n : BitVec 128) (w0 : World) : Calls Tryz.prog 13 #[.agg #[uH dc, uL dc, iW k0.toNat, iW k1.toNat, bF], .agg #[uH n, uL n]] w0 fun e w' => e = .returned (.agg #[uH ((Hf.jump ⟨dc, k0, k1, false⟩ n).c), uL ((Hf.jump ⟨dc, k0, k1, false⟩ n).c), iW (((Hf.jump ⟨dc, k0, k1, false⟩ n).k0).toNat), iW (((Hf.jump ⟨dc, k0, k1, false⟩ n).k1).toNat), .bool ((Hf.jump ⟨dc, k0, k1, false⟩ n).b)]) ∧ Below w0.heap.size w0 w' := by
 refine En Tryz.func13 Tryz.ntmps13 fun A F => ?_
 have H := Sx.Own.start w0
 refine Sp fun _ kk => Zb F (d_box F H rfl rfl [uH dc, uL dc, iW k0.toNat, iW k1.toNat, bF] rfl) fun g1 A w F H => ?_
 refine Zb F (d_box F H rfl rfl [uH n, uL n] rfl) fun g2 A w F H => ?_
 refine Zb F (d_alloc H rfl L5 zero_45) fun g3 A w F H => ?_
 refine Nl kk (Sp fun _ kk => Av F fun A F => ?_)
 refine Nl kk (Sx.seq fun K3 hK3 => Sp fun _ kk => ?_)
 iterate 2 (refine Av F ?_; intro A F)
 refine Nl kk (condF F rfl (wp_skip (hK3 _ _ (Sp fun _ kk => Av F fun A F => ?_))))
 refine Zr (mk := fun v => v) F (d_litR (qs := #[(0, iI 0)]) (cs := #[iI 0]) (E := 3) (z := 1) F H rfl rfl (fun _ => by kernel_rfl) rfl (by decide)) fun v1 A w F H => ?_
 iterate 2 (refine Av F ?_; intro A F)
 refine Zr (mk := fun v => v) F (d_callR (vs := [.agg #[uH dc, uL dc]]) (mk := fun v => v) if_12 F H rfl rfl (rlist_c dc _)) fun v2 A w F H => ?_
 refine Zr (mk := fun v => v) F (d_appendR (i := 1) (j := 0) el_54 F H rfl rfl rfl rfl rfl (Bi.ones _ _) rfl (by omega) (by decide)) fun v3 A w F H => ?_
 refine Av F fun A F => ?_
 refine Nl kk (Sp fun _ kk => Zr (mk := fun v => v) F (d_litR (qs := #[]) (cs := #[]) (E := 3) (z := 1) F H rfl rfl (fun _ => by kernel_rfl) rfl (by decide)) fun v4 A w F H => ?_)
 refine Av F fun A F => ?_
 refine Zr (mk := fun v => v) F (d_callR (vs := [.agg #[uH n, uL n]]) (mk := fun v => v) if_12 F H rfl rfl (rlist_c n _)) fun v5 A w F H => ?_
 refine Zr (mk := fun v => v) F (d_appendR (i := 1) (j := 0) el_54 F H rfl rfl rfl rfl rfl (Bi.ones _ _) rfl (by omega) (by decide)) fun v6 A w F H => ?_
 refine Zg (mk := fun g => sL g 0 1 1) F (d_lit (qs := #[(0, iI 0)]) (cs := #[iI 0]) (E := 3) F H rfl rfl (fun _ => by kernel_rfl)) fun g4 A w F H => ?_
 refine Zr (mk := fun v => v) F (d_append (i := 1) (j := 0) el_54 F H rfl rfl rfl rfl rfl rfl rfl rfl (by omega) (by decide)) fun v7 A w F H => ?_
 refine Av F fun A F => ?_
 refine Nl kk (Sp fun _ kk => ?_)
 iterate 2 (refine Av F ?_; intro A F)
 refine Zr (mk := fun v => v) F (d_callR (vs := [v3, v7]) (mk := fun v => v) if_38 F H rfl rfl (rsum_c (BitVec.getLsbD (Hf.bigA dc false)) (BitVec.getLsbD (Hf.bigB n)) _ _ (m := 129) (by decide) _ (Bi.Rd.row (rowEq (H.row 3 _ rfl rfl) rfl rfl rfl rfl (Hf.rowA dc false)) (by decide)) (Bi.Rd.row (rowEq (H.row 1 _ rfl rfl) rfl rfl rfl rfl (Hf.rowB n)) (by decide)))) fun v8 A w F H => ?_
 refine Av F fun A F => ?_
 refine Sx.nil ?_
 obtain ⟨lg, lc, rfl, hc1, hc2⟩ := H.open (i := 0) rfl (by omega)
 replace H : Sx.Own w0 w [(true, g4, [iI 0]), (true, g3, L5), (true, g2, [uH n, uL n]), (true, g1, [uH dc, uL dc, iW k0.toNat, iW k1.toNat, bF])] [⟨true, sL lg 0 130 lc, 3, 1, 130, (Bi.bis (Hf.sumf dc false n) 130)⟩] := H.to' [0, 1, 2, 3] [0] (by decide) (by decide) rfl rfl
 refine kk _ _ ?_
 refine Sx.seq fun K8 hK8 => ?_
 have F := F.tq [(0, .agg #[uH dc, uL dc, iW k0.toNat, iW k1.toNat, bF]), (1, .agg #[uH n, uL n]), (2, pT g1 0), (3, pT g2 0), (4, pT g3 0), (5, iI 0), (9, pT g1 4), (10, bF), (11, iI 0), (12, v1), (13, pT g1 0), (14, .agg #[uH dc, uL dc]), (15, v2), (16, v3), (6, v3), (17, v4), (18, .agg #[uH n, uL n]), (19, v5), (20, v6), (21, sL g4 0 1 1), (22, v7), (7, v7), (23, v3), (24, v7), (25, sL lg 0 130 lc), (8, sL lg 0 130 lc)] rfl
 refine Dn F [some (sL lg 0 130 lc), some (sL lg 1 128 (lc - 1)), some (.agg #[uH (Bi.of (Hf.farb dc false n) 128), uL (Bi.of (Hf.farb dc false n) 128)]), some (pT g1 2), some (.agg #[iW k0.toNat, iW k1.toNat]), some (sL lg 0 130 lc), some (pT lg 0), some (iI (((Hf.sumf dc false n) 0).toNat)), some (.bool ((((Hf.sumf dc false n) 0).toNat : Int) == 1)), some (.agg #[uH (Bi.of (Hf.farb dc false n) 128), uL (Bi.of (Hf.farb dc false n) 128), iW k0.toNat, iW k1.toNat, .bool ((((Hf.sumf dc false n) 0).toNat : Int) == 1)]), none] (fun L A w => Sx.Own w0 w [(true, g4, [iI 0]), (true, g3, (cond (L 10) [uH (Bi.of (Hf.farb dc false n) 128), uL (Bi.of (Hf.farb dc false n) 128), iW k0.toNat, iW k1.toNat, .bool ((((Hf.sumf dc false n) 0).toNat : Int) == 1)] L5)), (true, g2, [uH n, uL n]), (true, g1, [uH dc, uL dc, iW k0.toNat, iW k1.toNat, bF])] [⟨true, sL lg 0 130 lc, 3, 1, 130, (Bi.bis (Hf.sumf dc false n) 130)⟩]) H.drew ?_ ?_
 ·refine ⟨?_, ?_, ?_, ?_, ?_, ?_, ?_, ?_, ?_, ?_, ?_, trivial⟩
  ·exact Sa
  ·exact SV (fun _ _ _ F _ => d_sliceLH (l := 1) (h := 129) el_54 F rfl rfl rfl rfl rfl rfl (by decide) (by omega) (by omega) rfl rfl rfl)
  ·intro L A w up hun hd F H
   have f10 : L 10 = false := up 10 2 rfl hun
   rw [f10] at H
   refine step_on rfl (Dc if_39 F H (rof_c (Hf.farb dc false n) _ _ _ (Bi.Rd.congr (Bi.Rd.part (f := Hf.sumf dc false n) (Bi.Rd.row (H.row 0 _ rfl rfl) (by decide)) 1 128 (by decide) _ 1 rfl) (Hf.far_at dc false n)))) ?_
   rintro xv w' ⟨hx, H⟩
   exact ⟨Cs hx, (by show Sx.Own _ _ _ _; rw [show Inv.add L 2 10 = false from f10]; exact H)⟩
  ·exact Sa
  ·exact SV (fun _ _ _ F H => Lr 3 [iW k0.toNat, iW k1.toNat] rw_30 F H)
  ·exact Sa
  ·exact SV (fun _ _ _ F _ => d_ixR (k := 0) el_54 F rfl rfl rfl (rfl) (by omega))
  ·intro L A w up hun hd F H
   have f10 : L 10 = false := up 10 7 rfl hun
   have G := H; rw [f10] at G
   refine step_on rfl (d_loadR (i := 0) (v := iI (((Hf.sumf dc false n) 0).toNat)) one_3 F G rfl rfl rfl (Bi.at_ _ _ _ (by omega))) ?_
   rintro xv w' ⟨hx, rfl⟩
   exact ⟨Cs hx, H⟩
  ·exact SV (fun _ _ _ F _ => Bn (.bool ((((Hf.sumf dc false n) 0).toNat : Int) == 1)) F rfl rfl rfl (i_eq rfl))
  ·exact SV (fun _ _ _ F _ => d_build (qs := #[(0, .agg #[uH (Bi.of (Hf.farb dc false n) 128), uL (Bi.of (Hf.farb dc false n) 128)]), (1, .agg #[iW k0.toNat, iW k1.toNat]), (2, .bool ((((Hf.sumf dc false n) 0).toNat : Int) == 1))]) (v := .agg #[uH (Bi.of (Hf.farb dc false n) 128), uL (Bi.of (Hf.farb dc false n) 128), iW k0.toNat, iW k1.toNat, .bool ((((Hf.sumf dc false n) 0).toNat : Int) == 1)]) F rfl rfl (by kernel_rfl))
  ·intro L A w up hun hd F H
   have f10 : L 10 = false := hun
   rw [f10] at H
   refine step_on rfl (d_store (i := 1) (xs := [uH (Bi.of (Hf.farb dc false n) 128), uL (Bi.of (Hf.farb dc false n) 128), iW k0.toNat, iW k1.toNat, .bool ((((Hf.sumf dc false n) 0).toNat : Int) == 1)]) (us := [uH (Bi.of (Hf.farb dc false n) 128), uL (Bi.of (Hf.farb dc false n) 128), iW k0.toNat, iW k1.toNat, .bool ((((Hf.sumf dc false n) 0).toNat : Int) == 1)]) sz_45 F H rfl rfl rfl rfl rfl rfl rfl (Nat.le_of_ble_eq_true rfl) rfl) ?_
   intro xv w' H
   exact ⟨Cn, H⟩
 ·intro L A w hL F H
  have t10 : L 10 = true := hL 10 rfl
  rw [t10] at H
  have F := F.tq [(4, pT g3 0)] rfl
  refine hK8 _ _ (wp_ret ?_)
  try dsimp only [Exit.then, Exit.inBlock, Exit.jump]
  refine ret1 F Tryz.results13 (res_row (i := 1) (xs := [uH (Bi.of (Hf.farb dc false n) 128), uL (Bi.of (Hf.farb dc false n) 128), iW k0.toNat, iW k1.toNat, .bool ((((Hf.sumf dc false n) 0).toNat : Int) == 1)]) rw_45 F H rfl rfl rfl rfl) ⟨?_, H.below⟩
  rw [← Hf.far_eq dc k0 k1 false n]
theorem rfar12_c (c : BitVec 128) (k0 k1 : BitVec 32) (b : Bool) (n : BitVec 128) (w : World) : Calls Tryz.prog 13 #[.agg #[.int .u64 ((Wd.hi c).toNat), .int .u64 ((Wd.lo c).toNat), .int .u32 k0.toNat, .int .u32 k1.toNat, .bool b], .agg #[.int .u64 ((Wd.hi n).toNat), .int .u64 ((Wd.lo n).toNat)]] w fun e w' => e = .returned (.agg #[.int .u64 ((Wd.hi ((Hf.jump ⟨c, k0, k1, b⟩ n).c)).toNat), .int .u64 ((Wd.lo ((Hf.jump ⟨c, k0, k1, b⟩ n).c)).toNat), .int .u32 (((Hf.jump ⟨c, k0, k1, b⟩ n).k0).toNat), .int .u32 (((Hf.jump ⟨c, k0, k1, b⟩ n).k1).toNat), .bool ((Hf.jump ⟨c, k0, k1, b⟩ n).b)]) ∧ Below w.heap.size w w' := by
  cases b
  · exact rfar12_f c k0 k1 n w
  · exact rfar12_t c k0 k1 n w
def AwakeTop : Prop := ∀ w : World, Calls Tryz.prog 5 #[] w fun e w' => e = .returned (.bool true) ∧ Below w.heap.size w w'
abbrev L96 (x0 x1 x2 : Nat) : List (Nat × Value) := [(2, pT x0 0), (3, pT x1 0), (4, bF), (5, pT x2 0)]
abbrev L97 : List Sx.Bx := [(false, 0, [iI 0, iU 0, iU 0, iU 0, iU 0, iU 0, uN (Wd.hi 0#128), uN (Wd.lo 0#128), uN (Wd.hi 0#128), uN (Wd.lo 0#128), uN (Wd.hi 0#128), uN (Wd.lo 0#128), iW 0, iW 0, bF]), (false, 0, [uN (Wd.hi 0#128), uN (Wd.lo 0#128)])]
abbrev L98 (x0 x1 x2 x3 : Nat) : List (Nat × Value) := [(2, pT x0 0), (4, bF), (5, pT x1 0), (7, pT x2 0), (8, pT x3 0)]
abbrev L99 : Value := .agg #[uN (Wd.hi 11400714819323198485#128), uN (Wd.lo 11400714819323198485#128)]
abbrev L100 : Value := .agg #[uN (Wd.hi 1#128), uN (Wd.lo 1#128), uN (Wd.hi 11400714819323198485#128), uN (Wd.lo 11400714819323198485#128)]
abbrev L101 : List Value := [uN (Wd.hi 1#128), uN (Wd.lo 1#128), uN (Wd.hi 11400714819323198485#128), uN (Wd.lo 11400714819323198485#128)]
abbrev L102 (x0 x1 : Nat) (x2 : BitVec 64) (x3 : BitVec 128) (x4 x5 x6 x7 : Nat) : List Sx.Bx := [(true, x0, [uN (Wd.hi 1#128), uN (Wd.lo 1#128), uN (Wd.hi 11400714819323198485#128), uN (Wd.lo 11400714819323198485#128)]), (true, x1, [iI 1, uN (Mx.jump x2 (Wd.lo x3)), iU 0, iU 0, iU 0, iU 0, uN (Wd.hi 0#128), uN (Wd.lo 0#128), uN (Wd.hi 0#128), uN (Wd.lo 0#128), uN (Wd.hi 0#128), uN (Wd.lo 0#128), iW 0, iW 0, bF]), (true, x4, [uH x3, uL x3]), (true, x5, [iI 1, uN x2, iU 0, iU 0, iU 0, iU 0, uN (Wd.hi 0#128), uN (Wd.lo 0#128), uN (Wd.hi 0#128), uN (Wd.lo 0#128), uN (Wd.hi 0#128), uN (Wd.lo 0#128), iW 0, iW 0, bF]), (true, x6, [iI 1, uN x2, iU 0, iU 0, iU 0, iU 0, uN (Wd.hi 0#128), uN (Wd.lo 0#128), uN (Wd.hi 0#128), uN (Wd.lo 0#128), uN (Wd.hi 0#128), uN (Wd.lo 0#128), iW 0, iW 0, bF]), (true, x7, [uH x3, uL x3])]
set_option maxHeartbeats 1000000 in
open Sx in
theorem tj1_ok (gm : BitVec 64) (n : BitVec 128) (haw : AwakeTop) (w0 : World) : Calls Tryz.prog 3 #[(L59 gm), .agg #[uH n, uL n]] w0 fun e w' => e = .returned (bT) ∧ Below w0.heap.size w0 w' := by
 refine En Tryz.func3 Tryz.ntmps3 fun A F => ?_
 have H := Sx.Own.start w0
 refine Sp fun _ kk => Zb F (d_box F H rfl rfl (L61 gm) rfl) fun g1 A w F H => ?_
 refine Zb F (d_box F H rfl rfl [uH n, uL n] rfl) fun g2 A w F H => ?_
 refine Av F fun A F => ?_
 refine Nl kk (Sx.seq fun K2 hK2 => Sp fun _ kk => Zw F (Dc if_5 F H (haw _)) fun A w F H => ?_)
 refine Zv F (d_un (v := bF) F rfl rfl rfl) fun A F => ?_
 refine Nl kk (condF F rfl (wp_skip (hK2 _ _ (Sp fun _ kk => ?_))))
 iterate 2 (refine Av F ?_; intro A F)
 refine Zw F (Dc if_6 F H (gjmp1_ok gm n _)) fun A w F H => ?_
 iterate 3 (refine Av F ?_; intro A F)
 refine Zb F (d_alloc H rfl L6 zero_35) fun g3 A w F H => ?_
 refine Zt F (d_store (i := 0) (xs := (L69 gm n)) (us := (L69 gm n)) sz_35 F H rfl rfl rfl rfl rfl rfl rfl (Nat.le_of_ble_eq_true rfl) rfl) fun A w F (H : Sx.Own w0 _ [(true, g3, (L69 gm n)), (true, g2, [uH n, uL n]), (true, g1, (L61 gm))] []) => ?_
 refine Av F fun A F => ?_
 refine Nl kk (Sx.seq fun K5 hK5 => Sp fun _ kk => Av F fun A F => ?_)
 refine Zw F (Dc if_7 F H (gcheck1_ok gm _)) fun A w F H => ?_
 refine Av F fun A F => ?_
 refine Nl kk (condF F rfl (wp_skip (hK5 _ _ (Sx.seq fun K7 hK7 => Sp fun _ kk => ?_))))
 iterate 11 (refine Av F ?_; intro A F)
 refine Zw F (Dc if_7 F H (gcheck1_ok (Mx.jump gm (Wd.lo n)) _)) fun A w F H => ?_
 iterate 2 (refine Av F ?_; intro A F)
 refine Nl kk (condF F rfl (wp_skip (hK7 _ _ (Sx.seq fun K9 hK9 => ?_))))
 have F := F.tq (L96 g1 g2 g3) rfl
 refine Dn F [some (L59 gm), some (L59 gm), some (.agg #[uH n, uL n]), none, none, none, none] (fun L A w => ∃ g4 : Nat, ∃ g5 : Nat, (L 3 = true → A.eval (.tmp 7) = pT g4 0) ∧ (L 4 = true → A.eval (.tmp 8) = pT g5 0) ∧ Sx.Own w0 w [(true, g3, (L69 gm n)), (true, g2, [uH n, uL n]), (true, g1, (L61 gm)), (L 3, g4, (cond (L 5) (L61 gm) L6)), (L 4, g5, (cond (L 6) [uH n, uL n] L1))] []) ⟨0, 0, (fun h => by cases h), (fun h => by cases h), H.drew.pad L97 rfl [] rfl⟩ ?_ ?_
 ·refine ⟨?_, ?_, ?_, ?_, ?_, ?_, ?_, trivial⟩
  ·exact SV (fun _ _ _ F ⟨g4, g5, p3, p4, H⟩ => Lr 2 (L61 gm) rw_35 F H) (fun _ _ _ _ ⟨g4, g5, p3, p4, H⟩ => ⟨g4, g5, Pk p3, Pk p4, H⟩)
  ·intro L A w up hun hd F ⟨g4, g5, p3, p4, H⟩
   have f5 : L 5 = false := up 5 1 rfl hun
   have f6 : L 6 = false := up 6 1 rfl hun
   rw [f5, f6] at H
   refine step_on rfl (Dc if_8 F H (own13_c 1 gm Xo.zero 0#128 0#128 0#128 0#32 0#32 false _)) ?_
   rintro xv w' ⟨hx, H⟩
   exact ⟨Cs hx, ⟨g4, g5, Pk p3, Pk p4, (by show Sx.Own _ _ _ _; rw [show Inv.add L 1 5 = false from f5, show Inv.add L 1 6 = false from f6]; exact H)⟩⟩
  ·exact SV (fun _ _ _ F ⟨g4, g5, p3, p4, H⟩ => Lr 1 [uH n, uL n] rw_26 F H) (fun _ _ _ _ ⟨g4, g5, p3, p4, H⟩ => ⟨g4, g5, Pk p3, Pk p4, H⟩)
  ·intro L A w up hun hd F ⟨g4, g5, p3, p4, H⟩
   have f3 : L 3 = false := hun
   have f5 : L 5 = false := up 5 3 rfl hun
   have f6 : L 6 = false := up 6 3 rfl hun
   rw [f3, f5, f6] at H
   refine step_on rfl (d_alloc_at H rfl 3 L6 zero_47) ?_
   rintro xv w' ⟨g', hx, H⟩
   exact ⟨Cn, ⟨g', g5, (fun _ => (Sx.put_same F (by decide) _).trans hx), Pk p4, (by show Sx.Own _ _ _ _; rw [show Inv.add L 3 5 = false from f5, show Inv.add L 3 6 = false from f6]; exact H)⟩⟩
  ·intro L A w up hun hd F ⟨g4, g5, p3, p4, H⟩
   have f4 : L 4 = false := hun
   have f5 : L 5 = false := up 5 4 rfl hun
   have f6 : L 6 = false := up 6 4 rfl hun
   rw [f4, f5, f6] at H
   refine step_on rfl (d_alloc_at H rfl 4 L1 zero_41) ?_
   rintro xv w' ⟨g', hx, H⟩
   exact ⟨Cn, ⟨g4, g', Pk p3, (fun _ => (Sx.put_same F (by decide) _).trans hx), (by show Sx.Own _ _ _ _; rw [show Inv.add L 4 5 = false from f5, show Inv.add L 4 6 = false from f6]; exact H)⟩⟩
  ·intro L A w up hun hd F ⟨g4, g5, p3, p4, H⟩
   have t3 : L 3 = true := hd 3 rfl
   have t4 : L 4 = true := hd 4 rfl
   have f5 : L 5 = false := hun
   have f6 : L 6 = false := up 6 5 rfl hun
   rw [t3, t4, f5, f6] at H
   have F := Fr.add F (p3 t3)
   have F := Fr.add F (p4 t4)
   refine step_on rfl (d_store (i := 3) (xs := (L61 gm)) (us := (L61 gm)) sz_47 F H rfl rfl rfl rfl rfl rfl rfl (Nat.le_of_ble_eq_true rfl) rfl) ?_
   intro xv w' H
   exact ⟨Cn, ⟨g4, g5, p3, p4, (by show Sx.Own _ _ _ _; rw [show Inv.add L 5 3 = true from t3, show Inv.add L 5 4 = true from t4, show Inv.add L 5 6 = false from f6]; exact H)⟩⟩
  ·intro L A w up hun hd F ⟨g4, g5, p3, p4, H⟩
   have t3 : L 3 = true := hd 3 rfl
   have t4 : L 4 = true := hd 4 rfl
   have t5 : L 5 = true := hd 5 rfl
   have f6 : L 6 = false := hun
   rw [t3, t4, t5, f6] at H
   have F := Fr.add F (p3 t3)
   have F := Fr.add F (p4 t4)
   refine step_on rfl (d_store (i := 4) (xs := [uH n, uL n]) (us := [uH n, uL n]) sz_41 F H rfl rfl rfl rfl rfl rfl rfl (Nat.le_of_ble_eq_true rfl) rfl) ?_
   intro xv w' H
   exact ⟨Cn, ⟨g4, g5, p3, p4, (by show Sx.Own _ _ _ _; rw [show Inv.add L 6 3 = true from t3, show Inv.add L 6 4 = true from t4, show Inv.add L 6 5 = true from t5]; exact H)⟩⟩
 ·intro L A w hL F ⟨g4, g5, p3, p4, H⟩
  have t3 : L 3 = true := hL 3 rfl
  have t4 : L 4 = true := hL 4 rfl
  have t5 : L 5 = true := hL 5 rfl
  have t6 : L 6 = true := hL 6 rfl
  rw [t3, t4, t5, t6] at H
  have F := Fr.add F (p3 t3)
  have F := Fr.add F (p4 t4)
  have F := F.tq (L98 g1 g3 g4 g5) rfl
  refine hK9 _ _ (Sx.seq fun K10 hK10 => Sp fun _ kk => ?_)
  iterate 2 (refine Av F ?_; intro A F)
  refine Nl kk (wp_block (Sp fun _ kk => ?_))
  iterate 2 (refine Av F ?_; intro A F)
  refine Nl kk (condT F rfl (Sp fun _ kk => Zv F (d_build (qs := #[(1, iU 1)]) (v := L26) F rfl rfl (by kernel_rfl)) fun A F => ?_))
  refine Zv F (d_build (qs := #[(1, iU 11400714819323198485)]) (v := L99) F rfl rfl (by kernel_rfl)) fun A F => ?_
  refine Zv F (d_build (qs := #[(0, L26), (1, L99)]) (v := L100) F rfl rfl (by kernel_rfl)) fun A F => ?_
  refine Zb F (d_alloc H rfl L3 zero_50) fun g6 A w F H => ?_
  refine Zt F (d_store (i := 0) (xs := L101) (us := L101) sz_50 F H rfl rfl rfl rfl rfl rfl rfl (Nat.le_of_ble_eq_true rfl) rfl) fun A w F (H : Sx.Own w0 _ (L102 g6 g3 gm n g2 g1 g4 g5) []) => ?_
  refine Nl kk (Sx.seq fun K14 hK14 => ?_)
  have F := F.tq [(2, pT g1 0), (5, pT g3 0), (7, pT g4 0), (8, pT g5 0), (49, iI 1), (9, pT g6 0)] rfl
  refine Dn F [some (pT g3 1), some (uN (Mx.jump gm (Wd.lo n))), some (L100), some (.agg #[uH n, uL n]), some (.agg #[uH ((Af.pow ⟨1#128, 11400714819323198485#128⟩ (n).toNat).a), uL ((Af.pow ⟨1#128, 11400714819323198485#128⟩ (n).toNat).a), uH ((Af.pow ⟨1#128, 11400714819323198485#128⟩ (n).toNat).c), uL ((Af.pow ⟨1#128, 11400714819323198485#128⟩ (n).toNat).c)]), some (pT g1 1), some (uN gm), some (.agg #[uH (Wd.mk 0#64 gm), uL (Wd.mk 0#64 gm)]), some (.agg #[uH (((Af.pow ⟨1#128, 11400714819323198485#128⟩ (n).toNat).a) * (Wd.mk 0#64 gm) + ((Af.pow ⟨1#128, 11400714819323198485#128⟩ (n).toNat).c)), uL (((Af.pow ⟨1#128, 11400714819323198485#128⟩ (n).toNat).a) * (Wd.mk 0#64 gm) + ((Af.pow ⟨1#128, 11400714819323198485#128⟩ (n).toNat).c))]), some (uL (((Af.pow ⟨1#128, 11400714819323198485#128⟩ (n).toNat).a) * (Wd.mk 0#64 gm) + ((Af.pow ⟨1#128, 11400714819323198485#128⟩ (n).toNat).c))), some (bT), some (bT)] (fun L A w => Sx.Own w0 w (L102 g6 g3 gm n g2 g1 g4 g5) []) H.drew ?_ ?_
  ·refine ⟨?_, ?_, ?_, ?_, ?_, ?_, ?_, ?_, ?_, ?_, ?_, ?_, trivial⟩
   ·exact Sa
   ·exact SV (fun _ _ _ F H => Ld 1 one_22 F H)
   ·exact SV (fun _ _ _ F H => Lr 0 L101 rw_50 F H)
   ·exact SV (fun _ _ _ F H => Lr 5 [uH n, uL n] rw_41 F H)
   ·intro L A w up hun hd F H
    refine step_on rfl (Dc if_10 F H (rpow9_c 1#128 11400714819323198485#128 n _)) ?_
    rintro xv w' ⟨hx, H⟩
    exact ⟨Cs hx, H⟩
   ·exact Sa
   ·exact SV (fun _ _ _ F H => Ld 3 one_22 F H)
   ·exact SV (fun _ _ _ F _ => d_build (qs := #[(1, uN gm)]) (v := .agg #[uH (Wd.mk 0#64 gm), uL (Wd.mk 0#64 gm)]) F rfl rfl (by unfold uH uL; rw [Wd.hi_mk, Wd.lo_mk]; kernel_rfl))
   ·intro L A w up hun hd F H
    refine step_on rfl (Dc if_9 F H (rat9_c ((Af.pow ⟨1#128, 11400714819323198485#128⟩ (n).toNat).a) ((Af.pow ⟨1#128, 11400714819323198485#128⟩ (n).toNat).c) (Wd.mk 0#64 gm) _)) ?_
    rintro xv w' ⟨hx, H⟩
    exact ⟨Cs hx, H⟩
   ·exact SV (fun _ _ _ F _ => d_field (v := uL (((Af.pow ⟨1#128, 11400714819323198485#128⟩ (n).toNat).a) * (Wd.mk 0#64 gm) + ((Af.pow ⟨1#128, 11400714819323198485#128⟩ (n).toNat).c))) F rfl rfl (by kernel_rfl))
   ·exact SV (fun _ _ _ F _ => Bn bT F rfl rfl rfl (i_eq (Tj.mix_eq gm n)))
   ·exact Sa
  ·intro L A w hL F H
   have F := F.tq [(2, pT g1 0), (5, pT g3 0), (7, pT g4 0), (8, pT g5 0), (49, iI 1), (4, bT)] rfl
   refine hK14 _ _ (wp_ret ?_)
   try dsimp only [Exit.then, Exit.inBlock, Exit.jump, Exit.noGoto]
   refine ret1 F Tryz.results3 (res_tmp F rfl) ⟨?_, H.below⟩
   rfl
set_option maxHeartbeats 1000000 in
open Sx in
theorem tj2_ok (gx : St) (hr : Xj.right gx = true) (n : BitVec 128) (haw : AwakeTop) (w0 : World) : Calls Tryz.prog 3 #[(L62 gx), .agg #[uH n, uL n]] w0 fun e w' => e = .returned (bT) ∧ Below w0.heap.size w0 w' := by
 refine En Tryz.func3 Tryz.ntmps3 fun A F => ?_
 have H := Sx.Own.start w0
 refine Sp fun _ kk => Zb F (d_box F H rfl rfl (L63 gx) rfl) fun g1 A w F H => ?_
 refine Zb F (d_box F H rfl rfl [uH n, uL n] rfl) fun g2 A w F H => ?_
 refine Av F fun A F => ?_
 refine Nl kk (Sx.seq fun K2 hK2 => Sp fun _ kk => Zw F (Dc if_5 F H (haw _)) fun A w F H => ?_)
 refine Zv F (d_un (v := bF) F rfl rfl rfl) fun A F => ?_
 refine Nl kk (condF F rfl (wp_skip (hK2 _ _ (Sp fun _ kk => ?_))))
 iterate 2 (refine Av F ?_; intro A F)
 refine Zw F (Dc if_6 F H (gjmp2_ok gx (hr) n _)) fun A w F H => ?_
 iterate 3 (refine Av F ?_; intro A F)
 refine Zb F (d_alloc H rfl L6 zero_35) fun g3 A w F H => ?_
 refine Zt F (d_store (i := 0) (xs := (L72 n gx)) (us := (L72 n gx)) sz_35 F H rfl rfl rfl rfl rfl rfl rfl (Nat.le_of_ble_eq_true rfl) rfl) fun A w F (H : Sx.Own w0 _ [(true, g3, (L72 n gx)), (true, g2, [uH n, uL n]), (true, g1, (L63 gx))] []) => ?_
 refine Av F fun A F => ?_
 refine Nl kk (Sx.seq fun K5 hK5 => Sp fun _ kk => Av F fun A F => ?_)
 refine Zw F (Dc if_7 F H (gcheck2_ok gx (hr) _)) fun A w F H => ?_
 refine Av F fun A F => ?_
 refine Nl kk (condF F rfl (wp_skip (hK5 _ _ (Sx.seq fun K7 hK7 => Sp fun _ kk => ?_))))
 iterate 11 (refine Av F ?_; intro A F)
 refine Zw F (Dc if_7 F H (gcheck2_ok (Xo.it n.toNat gx) (Tj.right_it hr _) _)) fun A w F H => ?_
 iterate 2 (refine Av F ?_; intro A F)
 refine Nl kk (condF F rfl (wp_skip (hK7 _ _ (Sx.seq fun K9 hK9 => ?_))))
 have F := F.tq (L96 g1 g2 g3) rfl
 refine Dn F [some (L62 gx), some (L62 gx), some (.agg #[uH n, uL n]), none, none, none, none] (fun L A w => ∃ g4 : Nat, ∃ g5 : Nat, (L 3 = true → A.eval (.tmp 7) = pT g4 0) ∧ (L 4 = true → A.eval (.tmp 8) = pT g5 0) ∧ Sx.Own w0 w [(true, g3, (L72 n gx)), (true, g2, [uH n, uL n]), (true, g1, (L63 gx)), (L 3, g4, (cond (L 5) (L63 gx) L6)), (L 4, g5, (cond (L 6) [uH n, uL n] L1))] []) ⟨0, 0, (fun h => by cases h), (fun h => by cases h), H.drew.pad L97 rfl [] rfl⟩ ?_ ?_
 ·refine ⟨?_, ?_, ?_, ?_, ?_, ?_, ?_, trivial⟩
  ·exact SV (fun _ _ _ F ⟨g4, g5, p3, p4, H⟩ => Lr 2 (L63 gx) rw_35 F H) (fun _ _ _ _ ⟨g4, g5, p3, p4, H⟩ => ⟨g4, g5, Pk p3, Pk p4, H⟩)
  ·intro L A w up hun hd F ⟨g4, g5, p3, p4, H⟩
   have f5 : L 5 = false := up 5 1 rfl hun
   have f6 : L 6 = false := up 6 1 rfl hun
   rw [f5, f6] at H
   refine step_on rfl (Dc if_8 F H (own13_c 2 0#64 gx 0#128 0#128 0#128 0#32 0#32 false _)) ?_
   rintro xv w' ⟨hx, H⟩
   exact ⟨Cs hx, ⟨g4, g5, Pk p3, Pk p4, (by show Sx.Own _ _ _ _; rw [show Inv.add L 1 5 = false from f5, show Inv.add L 1 6 = false from f6]; exact H)⟩⟩
  ·exact SV (fun _ _ _ F ⟨g4, g5, p3, p4, H⟩ => Lr 1 [uH n, uL n] rw_26 F H) (fun _ _ _ _ ⟨g4, g5, p3, p4, H⟩ => ⟨g4, g5, Pk p3, Pk p4, H⟩)
  ·intro L A w up hun hd F ⟨g4, g5, p3, p4, H⟩
   have f3 : L 3 = false := hun
   have f5 : L 5 = false := up 5 3 rfl hun
   have f6 : L 6 = false := up 6 3 rfl hun
   rw [f3, f5, f6] at H
   refine step_on rfl (d_alloc_at H rfl 3 L6 zero_47) ?_
   rintro xv w' ⟨g', hx, H⟩
   exact ⟨Cn, ⟨g', g5, (fun _ => (Sx.put_same F (by decide) _).trans hx), Pk p4, (by show Sx.Own _ _ _ _; rw [show Inv.add L 3 5 = false from f5, show Inv.add L 3 6 = false from f6]; exact H)⟩⟩
  ·intro L A w up hun hd F ⟨g4, g5, p3, p4, H⟩
   have f4 : L 4 = false := hun
   have f5 : L 5 = false := up 5 4 rfl hun
   have f6 : L 6 = false := up 6 4 rfl hun
   rw [f4, f5, f6] at H
   refine step_on rfl (d_alloc_at H rfl 4 L1 zero_41) ?_
   rintro xv w' ⟨g', hx, H⟩
   exact ⟨Cn, ⟨g4, g', Pk p3, (fun _ => (Sx.put_same F (by decide) _).trans hx), (by show Sx.Own _ _ _ _; rw [show Inv.add L 4 5 = false from f5, show Inv.add L 4 6 = false from f6]; exact H)⟩⟩
  ·intro L A w up hun hd F ⟨g4, g5, p3, p4, H⟩
   have t3 : L 3 = true := hd 3 rfl
   have t4 : L 4 = true := hd 4 rfl
   have f5 : L 5 = false := hun
   have f6 : L 6 = false := up 6 5 rfl hun
   rw [t3, t4, f5, f6] at H
   have F := Fr.add F (p3 t3)
   have F := Fr.add F (p4 t4)
   refine step_on rfl (d_store (i := 3) (xs := (L63 gx)) (us := (L63 gx)) sz_47 F H rfl rfl rfl rfl rfl rfl rfl (Nat.le_of_ble_eq_true rfl) rfl) ?_
   intro xv w' H
   exact ⟨Cn, ⟨g4, g5, p3, p4, (by show Sx.Own _ _ _ _; rw [show Inv.add L 5 3 = true from t3, show Inv.add L 5 4 = true from t4, show Inv.add L 5 6 = false from f6]; exact H)⟩⟩
  ·intro L A w up hun hd F ⟨g4, g5, p3, p4, H⟩
   have t3 : L 3 = true := hd 3 rfl
   have t4 : L 4 = true := hd 4 rfl
   have t5 : L 5 = true := hd 5 rfl
   have f6 : L 6 = false := hun
   rw [t3, t4, t5, f6] at H
   have F := Fr.add F (p3 t3)
   have F := Fr.add F (p4 t4)
   refine step_on rfl (d_store (i := 4) (xs := [uH n, uL n]) (us := [uH n, uL n]) sz_41 F H rfl rfl rfl rfl rfl rfl rfl (Nat.le_of_ble_eq_true rfl) rfl) ?_
   intro xv w' H
   exact ⟨Cn, ⟨g4, g5, p3, p4, (by show Sx.Own _ _ _ _; rw [show Inv.add L 6 3 = true from t3, show Inv.add L 6 4 = true from t4, show Inv.add L 6 5 = true from t5]; exact H)⟩⟩
 ·intro L A w hL F ⟨g4, g5, p3, p4, H⟩
  have t3 : L 3 = true := hL 3 rfl
  have t4 : L 4 = true := hL 4 rfl
  have t5 : L 5 = true := hL 5 rfl
  have t6 : L 6 = true := hL 6 rfl
  rw [t3, t4, t5, t6] at H
  have F := Fr.add F (p3 t3)
  have F := Fr.add F (p4 t4)
  have F := F.tq (L98 g1 g3 g4 g5) rfl
  refine hK9 _ _ (Sx.seq fun K10 hK10 => Sp fun _ kk => ?_)
  iterate 2 (refine Av F ?_; intro A F)
  refine Nl kk (wp_block (Sp fun _ kk => ?_))
  iterate 2 (refine Av F ?_; intro A F)
  refine Nl kk (condF F rfl (Sp fun _ kk => ?_))
  iterate 2 (refine Av F ?_; intro A F)
  refine Nl kk (condT F rfl (Sx.seq fun K14 hK14 => ?_))
  have F := F.tq [(2, pT g1 0), (5, pT g3 0), (7, pT g4 0), (8, pT g5 0), (49, iI 2)] rfl
  refine Dn F [some (pT g3 2), some (L15 n gx), some (pT g4 2), some (L9 gx), some (.agg #[uH n, uL n]), none, some (L15 n gx), some (bT), some (bT)] (fun L A w => ∃ v1 : Value, (L 5 = true → A.eval (.tmp 73) = v1) ∧ Sx.Own w0 w [(true, g3, (L72 n gx)), (true, g2, [uH n, uL n]), (true, g1, (L63 gx)), (true, g4, (L63 gx)), (true, g5, [uH n, uL n])] [⟨L 5, v1, 3, 1, 128, (Bi.bis (BitVec.getLsbD n) 128)⟩]) ⟨undef, (fun h => by cases h), H.drew.pad [] rfl [⟨false, undef, 3, 1, 128, (Bi.bis (BitVec.getLsbD n) 128)⟩] rfl⟩ ?_ ?_
  ·refine ⟨?_, ?_, ?_, ?_, ?_, ?_, ?_, ?_, ?_, trivial⟩
   ·exact Sa (hS := (fun _ _ _ _ ⟨v1, p5, H⟩ => ⟨v1, Pk p5, H⟩))
   ·exact SV (fun _ _ _ F ⟨v1, p5, H⟩ => Lr 0 (L71 n gx) rw_24 F H) (fun _ _ _ _ ⟨v1, p5, H⟩ => ⟨v1, Pk p5, H⟩)
   ·exact Sa (hS := (fun _ _ _ _ ⟨v1, p5, H⟩ => ⟨v1, Pk p5, H⟩))
   ·exact SV (fun _ _ _ F ⟨v1, p5, H⟩ => Lr 3 [uN gx.a, uN gx.b, uN gx.c, uN gx.d] rw_23 F H) (fun _ _ _ _ ⟨v1, p5, H⟩ => ⟨v1, Pk p5, H⟩)
   ·intro L A w up hun hd F ⟨v1, p5, H⟩
    have f5 : L 5 = false := up 5 4 rfl hun
    have G := H; rw [f5] at G
    refine step_on rfl (Lr 4 [uH n, uL n] rw_41 F G) ?_
    rintro xv w' ⟨hx, rfl⟩
    exact ⟨Cs hx, ⟨v1, Nf f5, H⟩⟩
   ·intro L A w up hun hd F ⟨v1, p5, H⟩
    have f5 : L 5 = false := hun
    rw [f5] at H
    refine step_on rfl (d_callR_at 0 (vs := [.agg #[uH n, uL n]]) (mk := fun v => v) if_12 F H rfl rfl (rlist_c n _)) ?_
    rintro xv w' ⟨v', hx, H⟩
    exact ⟨Cn, ⟨v', (fun _ => (Sx.put_same F (by decide) _).trans hx), H⟩⟩
   ·intro L A w up hun hd F ⟨v1, p5, H⟩
    have t5 : L 5 = true := hd 5 rfl
    rw [t5] at H
    have F := Fr.add F (p5 t5)
    refine step_on rfl (Dc if_11 F H (r8jump_c gx n _ _ (H.row 0 _ rfl rfl))) ?_
    rintro xv w' ⟨hx, H⟩
    exact ⟨Cs hx, ⟨v1, Pk p5, (by show Sx.Own _ _ _ _; rw [show Inv.add L 6 5 = true from t5]; exact H)⟩⟩
   ·intro L A w up hun hd F ⟨v1, p5, H⟩
    have t5 : L 5 = true := by
     cases hb : L 5 with
     | true => rfl
     | false =>
      have hb6 := up 6 5 rfl hb
      rw [hd 6 rfl] at hb6; cases hb6
    have G := H; rw [t5] at G
    have F := Fr.add F (p5 t5)
    refine step_on rfl (Bn bT F rfl rfl rfl (i_eq4 (a := (Xo.it n.toNat gx).a) (b := (Xo.it n.toNat gx).b) (c := (Xo.it n.toNat gx).c) (d := (Xo.it n.toNat gx).d) (e := (Xo.it n.toNat gx).a) (f := (Xo.it n.toNat gx).b) (g := (Xo.it n.toNat gx).c) (h := (Xo.it n.toNat gx).d) (decide_eq_true ⟨rfl, rfl, rfl, rfl⟩))) ?_
    rintro xv w' ⟨hx, rfl⟩
    exact ⟨Cs hx, ⟨v1, Pk p5, H⟩⟩
   ·intro L A w up hun hd F ⟨v1, p5, H⟩
    have t5 : L 5 = true := hd 5 rfl
    have G := H; rw [t5] at G
    have F := Fr.add F (p5 t5)
    refine step_on rfl (d_move F (Or.inr rfl) rfl) ?_
    rintro xv w' ⟨hx, rfl⟩
    exact ⟨Cs hx, ⟨v1, Pk p5, H⟩⟩
  ·intro L A w hL F ⟨v1, p5, H⟩
   have t5 : L 5 = true := hL 5 rfl
   rw [t5] at H
   have F := Fr.add F (p5 t5)
   have F := F.tq [(2, pT g1 0), (5, pT g3 0), (7, pT g4 0), (8, pT g5 0), (49, iI 2), (4, bT)] rfl
   refine hK14 _ _ (wp_ret ?_)
   try dsimp only [Exit.then, Exit.inBlock, Exit.jump, Exit.noGoto]
   refine ret1 F Tryz.results3 (res_tmp F rfl) ⟨?_, H.below⟩
   rfl
abbrev L103 (x0 : Nat) (x1 : BitVec 128) (x2 : Nat) (x3 x4 : BitVec 128) (x5 x6 x7 x8 : Nat) : List Sx.Bx := [(true, x0, [uN (Wd.hi 15750249268501108917#128), uN (Wd.lo 15750249268501108917#128), uH x1, uL x1]), (true, x2, [iI 3, iU 0, iU 0, iU 0, iU 0, iU 0, uH ((Pc.jump ⟨x3, x1⟩ x4).s), uL ((Pc.jump ⟨x3, x1⟩ x4).s), uH x1, uL x1, uN (Wd.hi 0#128), uN (Wd.lo 0#128), iW 0, iW 0, bF]), (true, x5, [uH x4, uL x4]), (true, x6, [iI 3, iU 0, iU 0, iU 0, iU 0, iU 0, uH x3, uL x3, uH x1, uL x1, uN (Wd.hi 0#128), uN (Wd.lo 0#128), iW 0, iW 0, bF]), (true, x7, [iI 3, iU 0, iU 0, iU 0, iU 0, iU 0, uH x3, uL x3, uH x1, uL x1, uN (Wd.hi 0#128), uN (Wd.lo 0#128), iW 0, iW 0, bF]), (true, x8, [uH x4, uL x4])]
set_option maxHeartbeats 1000000 in
open Sx in
theorem tj3_ok (ps pi : BitVec 128) (hr : Af.odd pi = true) (n : BitVec 128) (haw : AwakeTop) (w0 : World) : Calls Tryz.prog 3 #[(L64 ps pi), .agg #[uH n, uL n]] w0 fun e w' => e = .returned (bT) ∧ Below w0.heap.size w0 w' := by
 refine En Tryz.func3 Tryz.ntmps3 fun A F => ?_
 have H := Sx.Own.start w0
 refine Sp fun _ kk => Zb F (d_box F H rfl rfl (L65 ps pi) rfl) fun g1 A w F H => ?_
 refine Zb F (d_box F H rfl rfl [uH n, uL n] rfl) fun g2 A w F H => ?_
 refine Av F fun A F => ?_
 refine Nl kk (Sx.seq fun K2 hK2 => Sp fun _ kk => Zw F (Dc if_5 F H (haw _)) fun A w F H => ?_)
 refine Zv F (d_un (v := bF) F rfl rfl rfl) fun A F => ?_
 refine Nl kk (condF F rfl (wp_skip (hK2 _ _ (Sp fun _ kk => ?_))))
 iterate 2 (refine Av F ?_; intro A F)
 refine Zw F (Dc if_6 F H (gjmp3_ok ps pi (hr) n _)) fun A w F H => ?_
 iterate 3 (refine Av F ?_; intro A F)
 refine Zb F (d_alloc H rfl L6 zero_35) fun g3 A w F H => ?_
 refine Zt F (d_store (i := 0) (xs := (L74 ps pi n)) (us := (L74 ps pi n)) sz_35 F H rfl rfl rfl rfl rfl rfl rfl (Nat.le_of_ble_eq_true rfl) rfl) fun A w F (H : Sx.Own w0 _ [(true, g3, (L74 ps pi n)), (true, g2, [uH n, uL n]), (true, g1, (L65 ps pi))] []) => ?_
 refine Av F fun A F => ?_
 refine Nl kk (Sx.seq fun K5 hK5 => Sp fun _ kk => Av F fun A F => ?_)
 refine Zw F (Dc if_7 F H (gcheck3_ok ps pi (hr) _)) fun A w F H => ?_
 refine Av F fun A F => ?_
 refine Nl kk (condF F rfl (wp_skip (hK5 _ _ (Sx.seq fun K7 hK7 => Sp fun _ kk => ?_))))
 iterate 11 (refine Av F ?_; intro A F)
 refine Zw F (Dc if_7 F H (gcheck3_ok ((Pc.jump ⟨ps, pi⟩ n).s) pi (hr) _)) fun A w F H => ?_
 iterate 2 (refine Av F ?_; intro A F)
 refine Nl kk (condF F rfl (wp_skip (hK7 _ _ (Sx.seq fun K9 hK9 => ?_))))
 have F := F.tq (L96 g1 g2 g3) rfl
 refine Dn F [some (L64 ps pi), some (L64 ps pi), some (.agg #[uH n, uL n]), none, none, none, none] (fun L A w => ∃ g4 : Nat, ∃ g5 : Nat, (L 3 = true → A.eval (.tmp 7) = pT g4 0) ∧ (L 4 = true → A.eval (.tmp 8) = pT g5 0) ∧ Sx.Own w0 w [(true, g3, (L74 ps pi n)), (true, g2, [uH n, uL n]), (true, g1, (L65 ps pi)), (L 3, g4, (cond (L 5) (L65 ps pi) L6)), (L 4, g5, (cond (L 6) [uH n, uL n] L1))] []) ⟨0, 0, (fun h => by cases h), (fun h => by cases h), H.drew.pad L97 rfl [] rfl⟩ ?_ ?_
 ·refine ⟨?_, ?_, ?_, ?_, ?_, ?_, ?_, trivial⟩
  ·exact SV (fun _ _ _ F ⟨g4, g5, p3, p4, H⟩ => Lr 2 (L65 ps pi) rw_35 F H) (fun _ _ _ _ ⟨g4, g5, p3, p4, H⟩ => ⟨g4, g5, Pk p3, Pk p4, H⟩)
  ·intro L A w up hun hd F ⟨g4, g5, p3, p4, H⟩
   have f5 : L 5 = false := up 5 1 rfl hun
   have f6 : L 6 = false := up 6 1 rfl hun
   rw [f5, f6] at H
   refine step_on rfl (Dc if_8 F H (own13_c 3 0#64 Xo.zero ps pi 0#128 0#32 0#32 false _)) ?_
   rintro xv w' ⟨hx, H⟩
   exact ⟨Cs hx, ⟨g4, g5, Pk p3, Pk p4, (by show Sx.Own _ _ _ _; rw [show Inv.add L 1 5 = false from f5, show Inv.add L 1 6 = false from f6]; exact H)⟩⟩
  ·exact SV (fun _ _ _ F ⟨g4, g5, p3, p4, H⟩ => Lr 1 [uH n, uL n] rw_26 F H) (fun _ _ _ _ ⟨g4, g5, p3, p4, H⟩ => ⟨g4, g5, Pk p3, Pk p4, H⟩)
  ·intro L A w up hun hd F ⟨g4, g5, p3, p4, H⟩
   have f3 : L 3 = false := hun
   have f5 : L 5 = false := up 5 3 rfl hun
   have f6 : L 6 = false := up 6 3 rfl hun
   rw [f3, f5, f6] at H
   refine step_on rfl (d_alloc_at H rfl 3 L6 zero_47) ?_
   rintro xv w' ⟨g', hx, H⟩
   exact ⟨Cn, ⟨g', g5, (fun _ => (Sx.put_same F (by decide) _).trans hx), Pk p4, (by show Sx.Own _ _ _ _; rw [show Inv.add L 3 5 = false from f5, show Inv.add L 3 6 = false from f6]; exact H)⟩⟩
  ·intro L A w up hun hd F ⟨g4, g5, p3, p4, H⟩
   have f4 : L 4 = false := hun
   have f5 : L 5 = false := up 5 4 rfl hun
   have f6 : L 6 = false := up 6 4 rfl hun
   rw [f4, f5, f6] at H
   refine step_on rfl (d_alloc_at H rfl 4 L1 zero_41) ?_
   rintro xv w' ⟨g', hx, H⟩
   exact ⟨Cn, ⟨g4, g', Pk p3, (fun _ => (Sx.put_same F (by decide) _).trans hx), (by show Sx.Own _ _ _ _; rw [show Inv.add L 4 5 = false from f5, show Inv.add L 4 6 = false from f6]; exact H)⟩⟩
  ·intro L A w up hun hd F ⟨g4, g5, p3, p4, H⟩
   have t3 : L 3 = true := hd 3 rfl
   have t4 : L 4 = true := hd 4 rfl
   have f5 : L 5 = false := hun
   have f6 : L 6 = false := up 6 5 rfl hun
   rw [t3, t4, f5, f6] at H
   have F := Fr.add F (p3 t3)
   have F := Fr.add F (p4 t4)
   refine step_on rfl (d_store (i := 3) (xs := (L65 ps pi)) (us := (L65 ps pi)) sz_47 F H rfl rfl rfl rfl rfl rfl rfl (Nat.le_of_ble_eq_true rfl) rfl) ?_
   intro xv w' H
   exact ⟨Cn, ⟨g4, g5, p3, p4, (by show Sx.Own _ _ _ _; rw [show Inv.add L 5 3 = true from t3, show Inv.add L 5 4 = true from t4, show Inv.add L 5 6 = false from f6]; exact H)⟩⟩
  ·intro L A w up hun hd F ⟨g4, g5, p3, p4, H⟩
   have t3 : L 3 = true := hd 3 rfl
   have t4 : L 4 = true := hd 4 rfl
   have t5 : L 5 = true := hd 5 rfl
   have f6 : L 6 = false := hun
   rw [t3, t4, t5, f6] at H
   have F := Fr.add F (p3 t3)
   have F := Fr.add F (p4 t4)
   refine step_on rfl (d_store (i := 4) (xs := [uH n, uL n]) (us := [uH n, uL n]) sz_41 F H rfl rfl rfl rfl rfl rfl rfl (Nat.le_of_ble_eq_true rfl) rfl) ?_
   intro xv w' H
   exact ⟨Cn, ⟨g4, g5, p3, p4, (by show Sx.Own _ _ _ _; rw [show Inv.add L 6 3 = true from t3, show Inv.add L 6 4 = true from t4, show Inv.add L 6 5 = true from t5]; exact H)⟩⟩
 ·intro L A w hL F ⟨g4, g5, p3, p4, H⟩
  have t3 : L 3 = true := hL 3 rfl
  have t4 : L 4 = true := hL 4 rfl
  have t5 : L 5 = true := hL 5 rfl
  have t6 : L 6 = true := hL 6 rfl
  rw [t3, t4, t5, t6] at H
  have F := Fr.add F (p3 t3)
  have F := Fr.add F (p4 t4)
  have F := F.tq (L98 g1 g3 g4 g5) rfl
  refine hK9 _ _ (Sx.seq fun K10 hK10 => Sp fun _ kk => ?_)
  iterate 2 (refine Av F ?_; intro A F)
  refine Nl kk (wp_block (Sp fun _ kk => ?_))
  iterate 2 (refine Av F ?_; intro A F)
  refine Nl kk (condF F rfl (Sp fun _ kk => ?_))
  iterate 2 (refine Av F ?_; intro A F)
  refine Nl kk (condF F rfl (Sp fun _ kk => ?_))
  iterate 2 (refine Av F ?_; intro A F)
  refine Nl kk (condT F rfl (Sp fun _ kk => Zv F (d_build (qs := #[(1, iU 15750249268501108917)]) (v := L43) F rfl rfl (by kernel_rfl)) fun A F => ?_))
  iterate 3 (refine Av F ?_; intro A F)
  refine Zv F (d_build (qs := #[(0, L43), (1, .agg #[uH pi, uL pi])]) (v := (L42 pi)) F rfl rfl (by kernel_rfl)) fun A F => ?_
  refine Zb F (d_alloc H rfl L3 zero_50) fun g6 A w F H => ?_
  refine Zt F (d_store (i := 0) (xs := (L44 pi)) (us := (L44 pi)) sz_50 F H rfl rfl rfl rfl rfl rfl rfl (Nat.le_of_ble_eq_true rfl) rfl) fun A w F (H : Sx.Own w0 _ (L103 g6 pi g3 ps n g2 g1 g4 g5) []) => ?_
  refine Nl kk (Sx.seq fun K16 hK16 => ?_)
  have F := F.tq [(2, pT g1 0), (5, pT g3 0), (7, pT g4 0), (8, pT g5 0), (10, pT g6 0)] rfl
  refine Dn F [some (L73 ps pi n), some (L73 ps pi n), some (L45 ps pi n), some (.agg #[uH ((Pc.jump ⟨ps, pi⟩ n).s), uL ((Pc.jump ⟨ps, pi⟩ n).s)]), some (L42 pi), some (.agg #[uH n, uL n]), some (L46 pi n), some (pT g4 6), some (pT g4 6), some (.agg #[uH ps, uL ps]), some (L47 pi n ps), some (bT), some (bT), some (pT g3 6), some (pT g3 8), some (.agg #[uH pi, uL pi]), some (pT g1 6), some (pT g1 8), some (.agg #[uH pi, uL pi]), some (bT), some (bT), some (bT)] (fun L A w => Sx.Own w0 w (L103 g6 pi g3 ps n g2 g1 g4 g5) []) H.drew ?_ ?_
  ·refine ⟨?_, ?_, ?_, ?_, ?_, ?_, ?_, ?_, ?_, ?_, ?_, ?_, ?_, ?_, ?_, ?_, ?_, ?_, ?_, ?_, ?_, ?_, trivial⟩
   ·exact SV (fun _ _ _ F H => Lr 1 (L74 ps pi n) rw_35 F H)
   ·intro L A w up hun hd F H
    refine step_on rfl (Dc if_8 F H (own13_c 3 0#64 Xo.zero ((Pc.jump ⟨ps, pi⟩ n).s) pi 0#128 0#32 0#32 false _)) ?_
    rintro xv w' ⟨hx, H⟩
    exact ⟨Cs hx, H⟩
   ·exact SV (fun _ _ _ F _ => d_field (v := (L45 ps pi n)) F rfl rfl (by kernel_rfl))
   ·exact SV (fun _ _ _ F _ => d_field (v := .agg #[uH ((Pc.jump ⟨ps, pi⟩ n).s), uL ((Pc.jump ⟨ps, pi⟩ n).s)]) F rfl rfl (by kernel_rfl))
   ·exact SV (fun _ _ _ F H => Lr 0 (L44 pi) rw_50 F H)
   ·exact SV (fun _ _ _ F H => Lr 5 [uH n, uL n] rw_41 F H)
   ·intro L A w up hun hd F H
    refine step_on rfl (Dc if_10 F H (rpow9_c 15750249268501108917#128 pi n _)) ?_
    rintro xv w' ⟨hx, H⟩
    exact ⟨Cs hx, H⟩
   ·exact Sa
   ·exact Sa
   ·exact SV (fun _ _ _ F H => Lr 4 [uH ps, uL ps] rw_41 F H)
   ·intro L A w up hun hd F H
    refine step_on rfl (Dc if_9 F H (rat9_c ((Af.pow ⟨15750249268501108917#128, pi⟩ (n).toNat).a) ((Af.pow ⟨15750249268501108917#128, pi⟩ (n).toNat).c) ps _)) ?_
    rintro xv w' ⟨hx, H⟩
    exact ⟨Cs hx, H⟩
   ·exact SV (fun _ _ _ F _ => Bn bT F rfl rfl rfl (i_eqU (Tj.pcg_eq ps pi n)))
   ·exact Sa
   ·exact SVg (fun _ _ _ F _ => Fd F (fa_35_3.default.h _ _ _))
   ·exact SVg (fun _ _ _ F _ => Fd F (fa_28_1.default.h _ _ _))
   ·exact SVg (fun _ _ _ F H => Lr 1 [uH pi, uL pi] rw_26 F H)
   ·exact SVg (fun _ _ _ F _ => Fd F (fa_35_3.default.h _ _ _))
   ·exact SVg (fun _ _ _ F _ => Fd F (fa_28_1.default.h _ _ _))
   ·exact SVg (fun _ _ _ F H => Lr 3 [uH pi, uL pi] rw_26 F H)
   ·exact SVg (fun _ _ _ F _ => Bn bT F rfl rfl rfl (i_eqV (eqb_self _)))
   ·exact Sa
   ·exact Sa
  ·intro L A w hL F H
   have F := F.tq [(5, pT g3 0), (7, pT g4 0), (8, pT g5 0), (4, bT)] rfl
   refine hK16 _ _ (wp_ret ?_)
   try dsimp only [Exit.then, Exit.inBlock, Exit.jump, Exit.noGoto]
   refine ret1 F Tryz.results3 (res_tmp F rfl) ⟨?_, H.below⟩
   rfl
set_option maxHeartbeats 1000000 in
open Sx in
theorem tj4_ok (hc : BitVec 128) (k0 k1 : BitVec 32) (hb : Bool) (n : BitVec 128) (haw : AwakeTop) (w0 : World) : Calls Tryz.prog 3 #[(L66 hc k0 k1 hb), .agg #[uH n, uL n]] w0 fun e w' => e = .returned (bT) ∧ Below w0.heap.size w0 w' := by
 refine En Tryz.func3 Tryz.ntmps3 fun A F => ?_
 have H := Sx.Own.start w0
 refine Sp fun _ kk => Zb F (d_box F H rfl rfl (L67 hc k0 k1 hb) rfl) fun g1 A w F H => ?_
 refine Zb F (d_box F H rfl rfl [uH n, uL n] rfl) fun g2 A w F H => ?_
 refine Av F fun A F => ?_
 refine Nl kk (Sx.seq fun K2 hK2 => Sp fun _ kk => Zw F (Dc if_5 F H (haw _)) fun A w F H => ?_)
 refine Zv F (d_un (v := bF) F rfl rfl rfl) fun A F => ?_
 refine Nl kk (condF F rfl (wp_skip (hK2 _ _ (Sp fun _ kk => ?_))))
 iterate 2 (refine Av F ?_; intro A F)
 refine Zw F (Dc if_6 F H (gjmp4_ok hc k0 k1 hb n _)) fun A w F H => ?_
 iterate 3 (refine Av F ?_; intro A F)
 refine Zb F (d_alloc H rfl L6 zero_35) fun g3 A w F H => ?_
 refine Zt F (d_store (i := 0) (xs := (L77 hc k0 k1 hb n)) (us := (L77 hc k0 k1 hb n)) sz_35 F H rfl rfl rfl rfl rfl rfl rfl (Nat.le_of_ble_eq_true rfl) rfl) fun A w F (H : Sx.Own w0 _ [(true, g3, (L77 hc k0 k1 hb n)), (true, g2, [uH n, uL n]), (true, g1, (L67 hc k0 k1 hb))] []) => ?_
 refine Av F fun A F => ?_
 refine Nl kk (Sx.seq fun K5 hK5 => Sp fun _ kk => Av F fun A F => ?_)
 refine Zw F (Dc if_7 F H (gcheck4_ok hc k0 k1 hb _)) fun A w F H => ?_
 refine Av F fun A F => ?_
 refine Nl kk (condF F rfl (wp_skip (hK5 _ _ (Sx.seq fun K7 hK7 => Sp fun _ kk => ?_))))
 iterate 11 (refine Av F ?_; intro A F)
 refine Zw F (Dc if_7 F H (gcheck4_ok ((Hf.jump ⟨hc, k0, k1, hb⟩ n).c) ((Hf.jump ⟨hc, k0, k1, hb⟩ n).k0) ((Hf.jump ⟨hc, k0, k1, hb⟩ n).k1) ((Hf.jump ⟨hc, k0, k1, hb⟩ n).b) _)) fun A w F H => ?_
 iterate 2 (refine Av F ?_; intro A F)
 refine Nl kk (condF F rfl (wp_skip (hK7 _ _ (Sx.seq fun K9 hK9 => ?_))))
 have F := F.tq (L96 g1 g2 g3) rfl
 refine Dn F [some (L66 hc k0 k1 hb), some (L66 hc k0 k1 hb), some (.agg #[uH n, uL n]), none, none, none, none] (fun L A w => ∃ g4 : Nat, ∃ g5 : Nat, (L 3 = true → A.eval (.tmp 7) = pT g4 0) ∧ (L 4 = true → A.eval (.tmp 8) = pT g5 0) ∧ Sx.Own w0 w [(true, g3, (L77 hc k0 k1 hb n)), (true, g2, [uH n, uL n]), (true, g1, (L67 hc k0 k1 hb)), (L 3, g4, (cond (L 5) (L67 hc k0 k1 hb) L6)), (L 4, g5, (cond (L 6) [uH n, uL n] L1))] []) ⟨0, 0, (fun h => by cases h), (fun h => by cases h), H.drew.pad L97 rfl [] rfl⟩ ?_ ?_
 ·refine ⟨?_, ?_, ?_, ?_, ?_, ?_, ?_, trivial⟩
  ·exact SV (fun _ _ _ F ⟨g4, g5, p3, p4, H⟩ => Lr 2 (L67 hc k0 k1 hb) rw_35 F H) (fun _ _ _ _ ⟨g4, g5, p3, p4, H⟩ => ⟨g4, g5, Pk p3, Pk p4, H⟩)
  ·intro L A w up hun hd F ⟨g4, g5, p3, p4, H⟩
   have f5 : L 5 = false := up 5 1 rfl hun
   have f6 : L 6 = false := up 6 1 rfl hun
   rw [f5, f6] at H
   refine step_on rfl (Dc if_8 F H (own13_c 4 0#64 Xo.zero 0#128 0#128 hc k0 k1 hb _)) ?_
   rintro xv w' ⟨hx, H⟩
   exact ⟨Cs hx, ⟨g4, g5, Pk p3, Pk p4, (by show Sx.Own _ _ _ _; rw [show Inv.add L 1 5 = false from f5, show Inv.add L 1 6 = false from f6]; exact H)⟩⟩
  ·exact SV (fun _ _ _ F ⟨g4, g5, p3, p4, H⟩ => Lr 1 [uH n, uL n] rw_26 F H) (fun _ _ _ _ ⟨g4, g5, p3, p4, H⟩ => ⟨g4, g5, Pk p3, Pk p4, H⟩)
  ·intro L A w up hun hd F ⟨g4, g5, p3, p4, H⟩
   have f3 : L 3 = false := hun
   have f5 : L 5 = false := up 5 3 rfl hun
   have f6 : L 6 = false := up 6 3 rfl hun
   rw [f3, f5, f6] at H
   refine step_on rfl (d_alloc_at H rfl 3 L6 zero_47) ?_
   rintro xv w' ⟨g', hx, H⟩
   exact ⟨Cn, ⟨g', g5, (fun _ => (Sx.put_same F (by decide) _).trans hx), Pk p4, (by show Sx.Own _ _ _ _; rw [show Inv.add L 3 5 = false from f5, show Inv.add L 3 6 = false from f6]; exact H)⟩⟩
  ·intro L A w up hun hd F ⟨g4, g5, p3, p4, H⟩
   have f4 : L 4 = false := hun
   have f5 : L 5 = false := up 5 4 rfl hun
   have f6 : L 6 = false := up 6 4 rfl hun
   rw [f4, f5, f6] at H
   refine step_on rfl (d_alloc_at H rfl 4 L1 zero_41) ?_
   rintro xv w' ⟨g', hx, H⟩
   exact ⟨Cn, ⟨g4, g', Pk p3, (fun _ => (Sx.put_same F (by decide) _).trans hx), (by show Sx.Own _ _ _ _; rw [show Inv.add L 4 5 = false from f5, show Inv.add L 4 6 = false from f6]; exact H)⟩⟩
  ·intro L A w up hun hd F ⟨g4, g5, p3, p4, H⟩
   have t3 : L 3 = true := hd 3 rfl
   have t4 : L 4 = true := hd 4 rfl
   have f5 : L 5 = false := hun
   have f6 : L 6 = false := up 6 5 rfl hun
   rw [t3, t4, f5, f6] at H
   have F := Fr.add F (p3 t3)
   have F := Fr.add F (p4 t4)
   refine step_on rfl (d_store (i := 3) (xs := (L67 hc k0 k1 hb)) (us := (L67 hc k0 k1 hb)) sz_47 F H rfl rfl rfl rfl rfl rfl rfl (Nat.le_of_ble_eq_true rfl) rfl) ?_
   intro xv w' H
   exact ⟨Cn, ⟨g4, g5, p3, p4, (by show Sx.Own _ _ _ _; rw [show Inv.add L 5 3 = true from t3, show Inv.add L 5 4 = true from t4, show Inv.add L 5 6 = false from f6]; exact H)⟩⟩
  ·intro L A w up hun hd F ⟨g4, g5, p3, p4, H⟩
   have t3 : L 3 = true := hd 3 rfl
   have t4 : L 4 = true := hd 4 rfl
   have t5 : L 5 = true := hd 5 rfl
   have f6 : L 6 = false := hun
   rw [t3, t4, t5, f6] at H
   have F := Fr.add F (p3 t3)
   have F := Fr.add F (p4 t4)
   refine step_on rfl (d_store (i := 4) (xs := [uH n, uL n]) (us := [uH n, uL n]) sz_41 F H rfl rfl rfl rfl rfl rfl rfl (Nat.le_of_ble_eq_true rfl) rfl) ?_
   intro xv w' H
   exact ⟨Cn, ⟨g4, g5, p3, p4, (by show Sx.Own _ _ _ _; rw [show Inv.add L 6 3 = true from t3, show Inv.add L 6 4 = true from t4, show Inv.add L 6 5 = true from t5]; exact H)⟩⟩
 ·intro L A w hL F ⟨g4, g5, p3, p4, H⟩
  have t3 : L 3 = true := hL 3 rfl
  have t4 : L 4 = true := hL 4 rfl
  have t5 : L 5 = true := hL 5 rfl
  have t6 : L 6 = true := hL 6 rfl
  rw [t3, t4, t5, t6] at H
  have F := Fr.add F (p3 t3)
  have F := Fr.add F (p4 t4)
  have F := F.tq (L98 g1 g3 g4 g5) rfl
  refine hK9 _ _ (Sx.seq fun K10 hK10 => Sp fun _ kk => ?_)
  iterate 2 (refine Av F ?_; intro A F)
  refine Nl kk (wp_block (Sp fun _ kk => ?_))
  iterate 2 (refine Av F ?_; intro A F)
  refine Nl kk (condF F rfl (Sp fun _ kk => ?_))
  iterate 2 (refine Av F ?_; intro A F)
  refine Nl kk (condF F rfl (Sp fun _ kk => ?_))
  iterate 2 (refine Av F ?_; intro A F)
  refine Nl kk (condF F rfl (wp_skip (hK10 _ _ (Sx.seq fun K15 hK15 => ?_))))
  have F := F.tq [(5, pT g3 0), (7, pT g4 0), (8, pT g5 0)] rfl
  refine Dn F [some (L75 hc k0 k1 hb n), some (L75 hc k0 k1 hb n), some (L76 hc k0 k1 hb n), some (pT g4 10), some (L52 hc k0 k1 hb), some (.agg #[uH n, uL n]), some (L76 hc k0 k1 hb n), some (bT), some (bT)] (fun L A w => Sx.Own w0 w [(true, g3, (L77 hc k0 k1 hb n)), (true, g2, [uH n, uL n]), (true, g1, (L67 hc k0 k1 hb)), (true, g4, (L67 hc k0 k1 hb)), (true, g5, [uH n, uL n])] []) H.drew ?_ ?_
  ·refine ⟨?_, ?_, ?_, ?_, ?_, ?_, ?_, ?_, ?_, trivial⟩
   ·exact SV (fun _ _ _ F H => Lr 0 (L77 hc k0 k1 hb n) rw_35 F H)
   ·intro L A w up hun hd F H
    refine step_on rfl (Dc if_8 F H (own13_c 4 0#64 Xo.zero 0#128 0#128 ((Hf.jump ⟨hc, k0, k1, hb⟩ n).c) ((Hf.jump ⟨hc, k0, k1, hb⟩ n).k0) ((Hf.jump ⟨hc, k0, k1, hb⟩ n).k1) ((Hf.jump ⟨hc, k0, k1, hb⟩ n).b) _)) ?_
    rintro xv w' ⟨hx, H⟩
    exact ⟨Cs hx, H⟩
   ·exact SV (fun _ _ _ F _ => d_field (v := (L76 hc k0 k1 hb n)) F rfl rfl (by kernel_rfl))
   ·exact Sa
   ·exact SV (fun _ _ _ F H => Lr 3 (L53 hc k0 k1 hb) rw_45 F H)
   ·exact SV (fun _ _ _ F H => Lr 4 [uH n, uL n] rw_41 F H)
   ·intro L A w up hun hd F H
    refine step_on rfl (Dc if_13 F H (rfar12_c hc k0 k1 hb n _)) ?_
    rintro xv w' ⟨hx, H⟩
    exact ⟨Cs hx, H⟩
   ·exact SV (fun _ _ _ F _ => Bn bT F rfl rfl rfl (i_eqG (decide_eq_true ⟨rfl, rfl, rfl, rfl⟩)))
   ·exact Sa
  ·intro L A w hL F H
   have F := F.tq [(4, bT)] rfl
   refine hK15 _ _ (wp_ret ?_)
   try dsimp only [Exit.then, Exit.inBlock, Exit.jump, Exit.noGoto]
   refine ret1 F Tryz.results3 (res_tmp F rfl) ⟨?_, H.below⟩
   rfl
set_option maxHeartbeats 1000000 in
open Sx in
theorem tj_bad (gk : Int) (gm : BitVec 64) (gx : St) (ps pi hc : BitVec 128) (k0 k1 : BitVec 32) (hb : Bool) (ge : Int) (hge : ge ≠ 0) (hck : ∀ w : World, Calls Tryz.prog 7 #[(L58 gk gm gx ps pi hc k0 k1 hb)] w fun e w' => e = .returned (iI ge) ∧ Below w.heap.size w w') (n : BitVec 128) (haw : AwakeTop) (w0 : World) : Calls Tryz.prog 3 #[(L58 gk gm gx ps pi hc k0 k1 hb), .agg #[uH n, uL n]] w0 fun e w' => e = .returned (bT) ∧ Below w0.heap.size w0 w' := by
 refine En Tryz.func3 Tryz.ntmps3 fun A F => ?_
 have H := Sx.Own.start w0
 refine Sp fun _ kk => Zb F (d_box F H rfl rfl (L60 gk gm gx ps pi hc k0 k1 hb) rfl) fun g1 A w F H => ?_
 refine Zb F (d_box F H rfl rfl [uH n, uL n] rfl) fun g2 A w F H => ?_
 refine Av F fun A F => ?_
 refine Nl kk (Sx.seq fun K2 hK2 => Sp fun _ kk => Zw F (Dc if_5 F H (haw _)) fun A w F H => ?_)
 refine Zv F (d_un (v := bF) F rfl rfl rfl) fun A F => ?_
 refine Nl kk (condF F rfl (wp_skip (hK2 _ _ (Sp fun _ kk => ?_))))
 iterate 2 (refine Av F ?_; intro A F)
 refine Zw F (Dc if_6 F H (gjmp_bad gk gm gx ps pi hc k0 k1 hb ge hge hck n _)) fun A w F H => ?_
 iterate 3 (refine Av F ?_; intro A F)
 refine Zb F (d_alloc H rfl L6 zero_35) fun g3 A w F H => ?_
 refine Zs 0 L6 sz_35 F H fun A w F H => ?_
 refine Av F fun A F => ?_
 refine Nl kk (Sx.seq fun K5 hK5 => Sp fun _ kk => Av F fun A F => ?_)
 refine Zw F (Dc if_7 F H (hck _)) fun A w F H => ?_
 refine Zv F (Bn bT F rfl rfl rfl (i_ne (by simpa using hge))) fun A F => ?_
 refine Nl kk (condT F rfl (Sp fun _ kk => ?_))
 iterate 2 (refine Av F ?_; intro A F)
 refine Zw F (Dc if_7 F H (hck _)) fun A w F H => ?_
 refine Zv F (Bn bT F rfl rfl rfl (i_eq (by simp))) fun A F => ?_
 iterate 2 (refine Av F ?_; intro A F)
 refine Zv F (d_build (qs := #[]) (v := L7) F rfl rfl (by kernel_rfl)) fun A F => ?_
 refine Zv F (Bn bT F rfl rfl rfl (i_eqS (u := (⟨0, 0#64, Xo.zero, 0#128, 0#128, 0#128, 0#32, 0#32, false⟩ : Gs)) (v := (⟨0, 0#64, Xo.zero, 0#128, 0#128, 0#128, 0#32, 0#32, false⟩ : Gs)) Sx.eqbS_self)) fun A F => ?_
 iterate 2 (refine Av F ?_; intro A F)
 refine Nl kk (wp_ret ?_)
 try dsimp only [Exit.then, Exit.inBlock, Exit.jump, Exit.noGoto]
 refine ret1 F Tryz.results3 (res_tmp F rfl) ⟨?_, H.below⟩
 rfl
section
open Go Go.RowKit Go.ChangeMaps
namespace Tb
def MapIs (o : Obj) (l : List (Int × Value)) : Prop := ∃ es clock, o = .map es clock ∧ es.toList.map (fun e => (e.key, e.val)) = l.map (fun q => (Value.int .i64 q.1, q.2))
def upd (K : Nat → Option Obj) (r : Nat) (o : Obj) : Nat → Option Obj := fun k => if k = r then some o else K k
def K2 (r4 r5 : Nat) (o4 o5 : Obj) : Nat → Option Obj := fun k => if k = r4 then some o4 else if k = r5 then some o5 else none
def ixs (h : Int) : List (Int × Value) → Nat → Option (Nat × Value)
  | [], _ => none
  | q :: l, i => if h == q.1 then some (i, q.2) else ixs h l (i + 1)
theorem fnd_ixs (h : Int) : ∀ (es : List MapEntry) (l : List (Int × Value)) (i : Nat), es.map (fun e => (e.key, e.val)) = l.map (fun q => (Value.int .i64 q.1, q.2)) → Instr.findNow (.int .i64) (.int .i64 h) es i = some (ixs h l i)
  | [], [], i, _ => rfl
  | [], _ :: _, i, e => by cases e
  | _ :: _, [], i, e => by cases e
  | a :: es, q :: l, i, e => by
    rw [List.map_cons, List.map_cons, List.cons.injEq, Prod.mk.injEq] at e
    obtain ⟨⟨e1, e2⟩, e3⟩ := e
    unfold Instr.findNow ixs
    rw [e1]
    simp only [Instr.sameNow, if_true]
    cases hq : h == q.1
    · rw [if_neg (by decide)]; exact fnd_ixs h es l (i + 1) e3
    · rw [if_pos rfl, e2]
def lk (l : List (Int × Value)) (h : Int) (z : Value) : Value × Bool := match l.find? (fun q => h == q.1) with
  | some q => (q.2, true)
  | none => (z, false)
theorem ixs_find (h : Int) (z : Value) : ∀ (l : List (Int × Value)) (i : Nat), (match ixs h l i with | some (_, v) => (v, true) | none => (z, false)) = lk l h z
  | [], _ => rfl
  | q :: l, i => by
    unfold ixs lk
    rw [List.find?_cons]
    cases hq : h == q.1
    · exact ixs_find h z l (i + 1)
    · rfl
theorem ixs_none (h : Int) : ∀ (l : List (Int × Value)) (i : Nat), (l.find? (fun q => h == q.1)) = none → ixs h l i = none
  | [], _, _ => rfl
  | q :: l, i, e => by
    rw [List.find?_cons] at e
    unfold ixs
    cases hq : h == q.1
    · rw [hq] at e; exact ixs_none h l (i + 1) e
    · rw [hq] at e; cases e
def hm (l : List R) : List (Int × Value) := l.map fun r => (r.1, .int .u64 (r.2.toNat : Nat))
def gm (l : List Int) : List (Int × Value) := l.map fun z => (z, .int .i64 1)
end Tb
namespace Sx
section
variable {P : Program} {ds : List Deferred} {w0 w : World} {a : Act} {o : Oper} {n : Nat} {kv : List (Nat × Value)} {bs : List Bx} {rs : List Rx} {K : Nat → Option Obj}
theorem Own.newKeep (h : Own w0 w bs rs K) (ob : Obj) : Own w0 (w.alloc ob) bs rs (Tb.upd K w.heap.size ob) := by
  have q := h.call ((Below.refl w.heap.size w).alloc (Nat.le_refl _) ob)
  refine ⟨q.below, q.box, q.nd, q.row, q.rb, q.rr, fun k o hk => ?_⟩
  unfold Tb.upd at hk
  split at hk
  · rename_i e
    cases hk
    subst e
    exact ⟨heap_alloc_new w _, h.below.size, fun i vs hi => Nat.lt_irrefl _ (h.box i _ vs hi).2.2, fun i r hi ho hg => Nat.lt_irrefl _ (h.rowLt hi ho hg).2⟩
  · exact q.kp k o hk
theorem Own.setKeep (h : Own w0 w bs rs K) {r : Nat} {ob ob' : Obj} (hk : K r = some ob) {w' : World} (hg : w.grownBy w' (some r)) (hr : w'.heap[r]? = some ob') : Own w0 w' bs rs (Tb.upd K r ob') := by
  obtain ⟨h1, h2, h3, h4⟩ := h.kp r ob hk
  refine ⟨Below.grown h.below hg h.below.size (fun k e => by cases e; exact h2), fun i b vs hi => ?_, h.nd, fun i s hi ho => World.ownsRow.kept (h.row i s hi ho) hg (Or.inr (h4 i s hi ho)), h.rb, h.rr, fun k o hk' => ?_⟩
  · obtain ⟨a1, a2, a3⟩ := h.box i b vs hi
    exact ⟨a1.lift (fun hl => hg.block _ hl (fun e => by cases e; exact h3 i vs hi)), a2, Nat.lt_of_lt_of_le a3 hg.size⟩
  · unfold Tb.upd at hk'
    split at hk'
    · rename_i e
      cases hk'; subst e
      exact ⟨hr, h2, h3, h4⟩
    · rename_i e
      obtain ⟨b1, b2, b3, b4⟩ := h.kp k o hk'
      exact ⟨(hg.block k (kplt b1) (fun e' => e (by cases e'; rfl))).trans b1, b2, b3, b4⟩
theorem run_check {t : TypeId} {h : Int} {b : Bool} (ht : P.underlying t = some (.int .i64)) : (Instr.checkKey b 10000 t (.int .i64 h)).run P w = .ok () w := by
  unfold Instr.checkKey
  simp [run_underlying ht]
theorem run_find {t : TypeId} {h : Int} {es : List MapEntry} {l : List (Int × Value)} (ht : P.underlying t = some (.int .i64)) (e : es.map (fun e => (e.key, e.val)) = l.map (fun q => (Value.int .i64 q.1, q.2))) : (Instr.findKey t (.int .i64 h) es).run P w = .ok (Tb.ixs h l 0) w := by
  unfold Instr.findKey
  simp [run_underlying ht, Tb.fnd_ixs h es l 0 e]
theorem d_lookup {m x : Operand} {t kt et : TypeId} {r : Nat} {ob : Obj} {l : List (Int × Value)} {h : Int} {z v : Value} {b : Bool} (hm : P.underlying t = some (.map kt et)) (ht : P.underlying kt = some (.int .i64)) (hz : ∀ w : World, (zeroValue et).run P w = .ok z w) (F : Fr n a kv ds) (H : Own w0 w bs rs K) (ho : o.op = .lookup t m x true)
    (hx : ev kv m = some (.map (some r))) (hy : ev kv x = some (.int .i64 h)) (hk : K r = some ob) (hl : Tb.MapIs ob l) (hv : Tb.lk l h z = (v, b)) : Does P o a w (fun y w' => y = .tuple #[v, .bool b] ∧ w' = w) := by
  obtain ⟨es, clock, rfl, hes⟩ := hl
  have hh := (H.kp r _ hk).1
  refine does_run ?_
  have hr : (Instr.lookup t (.map (some r)) (.int .i64 h) true).run P w = .ok (.tuple #[v, .bool b]) w := by
    have hf := Tb.ixs_find h z l 0
    rw [hv] at hf
    cases hi : Tb.ixs h l 0 with
    | none => rw [hi] at hf; cases hf; simp [Instr.lookup, run_underlying hm, MapKept.run_getObj_map hh, run_check ht, run_find ht hes, hi, hz]
    | some q => rw [hi] at hf; cases hf; simp [Instr.lookup, run_underlying hm, MapKept.run_getObj_map hh, run_check ht, run_find ht hes, hi]
  unfold execOp; rw [ho]; simp only [F.ev hx, F.ev hy, Sem.run_bind, hr]; rfl
theorem d_makeMap {t : TypeId} (F : Fr n a kv ds) (H : Own w0 w bs rs K) (ho : o.op = .makeMap t none) : Does P o a w (fun y w' => ∃ r, y = .map (some r) ∧ K r = none ∧ Own w0 w' bs rs (Tb.upd K r (.map #[] 0))) := by
  refine (does_run (v := .map (some w.heap.size)) (w' := w.alloc (.map #[] 0)) ?_).mono ?_
  · unfold execOp; rw [ho]; rfl
  · rintro y w' ⟨rfl, rfl⟩
    refine ⟨_, rfl, ?_, H.newKeep _⟩
    cases hk : K w.heap.size with
    | none => rfl
    | some ob => exact absurd (kplt (H.kp _ _ hk).1) (Nat.lt_irrefl _)
end
end Sx
end
namespace Dg
def dsF : Nat → Nat → List Nat
  | 0, _ => []
  | f + 1, n => if n < 10 then [n] else n % 10 :: dsF f (n / 10)
def ds (n : Nat) : List Nat := dsF 39 n
theorem dsF_step (f n : Nat) (h : 10 ≤ n) : dsF (f + 1) n = n % 10 :: dsF f (n / 10) := by
  show (if n < 10 then _ else _) = _
  rw [if_neg (by omega)]
theorem dsF_small (f n : Nat) (h : n < 10) : dsF (f + 1) n = [n] := by
  show (if n < 10 then _ else _) = _
  rw [if_pos h]
theorem pow10 (k : Nat) : 10 ^ (k + 1) = 10 * 10 ^ k := by rw [Nat.pow_succ, Nat.mul_comm]
abbrev M : Nat := 340282366920938463463374607431768211456
theorem len_le : ∀ (f n : Nat), (dsF f n).length ≤ f := by
  intro f
  induction f with
  | zero => intro n; exact Nat.le_refl _
  | succ f ih =>
    intro n
    by_cases hn : n < 10
    · rw [dsF_small _ _ hn]; simp
    · rw [dsF_step _ _ (by omega)]; have := ih (n / 10); simp; omega
theorem low : ∀ (f n : Nat), 1 ≤ n → 10 ^ ((dsF f n).length - 1) ≤ n := by
  intro f
  induction f with
  | zero => intro n h; exact h
  | succ f ih =>
    intro n h
    by_cases hn : n < 10
    · rw [dsF_small _ _ hn]; exact h
    · rw [dsF_step _ _ (by omega)]
      have := ih (n / 10) (by omega)
      rw [List.length_cons, Nat.add_sub_cancel]
      rcases hl : (dsF f (n / 10)).length with _ | k
      · exact h
      · rw [hl, Nat.add_sub_cancel] at this; rw [pow10]; omega
def big : List Nat → Nat
  | [] => 0
  | d :: l => d * 10 ^ l.length + big l
theorem big_lt : ∀ l : List Nat, (∀ d ∈ l, d < 10) → big l < 10 ^ l.length
  | [], _ => by simp [big]
  | a :: l, h => by
    have h1 := big_lt l (fun d hd => h d (List.mem_cons_of_mem _ hd))
    have h2 := h a (List.mem_cons_self ..)
    rw [big, List.length_cons, pow10]
    have : a * 10 ^ l.length ≤ 9 * 10 ^ l.length := Nat.mul_le_mul_right _ (by omega)
    omega
def byte (d : Nat) : UInt8 := UInt8.ofNat (48 + d)
theorem byte_nat (d : Nat) (h : d < 10) : (byte d).toNat = 48 + d := by
  unfold byte; rw [UInt8.toNat_ofNat']; omega
theorem byte_lt (d e : Nat) (hd : d < 10) (he : e < 10) : decide (byte d < byte e) = decide (d < e) := by
  rw [decide_eq_decide, UInt8.lt_iff_toNat_lt, byte_nat d hd, byte_nat e he]; omega
theorem byte_eq (d e : Nat) (hd : d < 10) (he : e < 10) : (byte d == byte e) = decide (d = e) := by
  rw [Bool.eq_iff_iff, beq_iff_eq, decide_eq_true_iff]
  constructor
  · intro h; have := congrArg UInt8.toNat h; rw [byte_nat d hd, byte_nat e he] at this; omega
  · rintro rfl; rfl
theorem less : ∀ x y : List Nat, x.length = y.length → (∀ d ∈ x, d < 10) → (∀ d ∈ y, d < 10) → Op.bytesLess (x.map byte) (y.map byte) = decide (big x < big y)
  | [], [], _, _, _ => rfl
  | [], _ :: _, h, _, _ => by cases h
  | _ :: _, [], h, _, _ => by cases h
  | a :: x, b :: y, h, hx, hy => by
    have hl : x.length = y.length := by simpa using h
    have hx' := fun d hd => hx d (List.mem_cons_of_mem _ hd)
    have hy' := fun d hd => hy d (List.mem_cons_of_mem _ hd)
    have ih := less x y hl hx' hy'
    have ha := hx a (List.mem_cons_self ..)
    have hb := hy b (List.mem_cons_self ..)
    have l1 := big_lt x hx'
    have l2 := big_lt y hy'
    rw [hl] at l1
    show (decide (byte a < byte b) || (byte a == byte b && Op.bytesLess (x.map byte) (y.map byte))) = _
    rw [byte_lt a b ha hb, byte_eq a b ha hb, ih, big, big, hl]
    rcases Nat.lt_trichotomy a b with h | h | h
    · have : (a + 1) * 10 ^ y.length ≤ b * 10 ^ y.length := Nat.mul_le_mul_right _ (by omega)
      rw [Nat.add_mul] at this
      have e : a * 10 ^ y.length + big x < b * 10 ^ y.length + big y := by omega
      rw [decide_eq_true h, decide_eq_true e]; rfl
    · subst h
      rw [decide_eq_false (by omega), decide_eq_true rfl, Bool.false_or, Bool.true_and, decide_eq_decide]; omega
    · have : (b + 1) * 10 ^ y.length ≤ a * 10 ^ y.length := Nat.mul_le_mul_right _ (by omega)
      rw [Nat.add_mul] at this
      have e : ¬ (a * 10 ^ y.length + big x < b * 10 ^ y.length + big y) := by omega
      rw [decide_eq_false (show ¬ a < b by omega), decide_eq_false (show ¬ a = b by omega), decide_eq_false e]; rfl
def len (n : Nat) : Nat := (ds n).length
end Dg
namespace By
def bys (f : Nat → Nat) (n : Nat) : List Value := (List.range n).map fun i => .int .u8 (f i : Nat)
theorem at_ (f : Nat → Nat) (n k : Nat) (h : k < n) : (bys f n)[k]? = some (.int .u8 (f k : Nat)) := by simp [bys, h]
theorem snoc (f : Nat → Nat) (n : Nat) : bys f (n + 1) = bys f n ++ [.int .u8 (f n : Nat)] := by simp [bys, List.range_succ]
theorem len (f : Nat → Nat) (n : Nat) : (bys f n).length = n := by simp [bys]
def put (a : BitVec 128) (i : Nat) : Nat := a.toNat / 2 ^ (8 * i) % 256
theorem put_lo (a : BitVec 128) (i : Nat) : (Wd.lo (a >>> (8 * i))).toNat % 256 = put a i := by
  rw [Wd.lo_nat, BitVec.toNat_ushiftRight, Nat.shiftRight_eq_div_pow, put]; omega
def row (a : BitVec 128) (i : Nat) : List Value := bys (put a) i ++ List.replicate (16 - i) (.int .u8 0)
theorem row_set (a : BitVec 128) (i : Nat) (h : i < 16) : (row a i).set i (.int .u8 (put a i : Nat)) = row a (i + 1) := by
  have e : 16 - i = (16 - (i + 1)) + 1 := by omega
  unfold row
  rw [e, List.replicate_succ, List.set_append_right _ _ (by rw [len]; exact Nat.le_refl _), len, Nat.sub_self, List.set_cons_zero, snoc, List.append_assoc]; rfl
theorem row_all (a : BitVec 128) : row a 16 = bys (put a) 16 := by unfold row; rw [Nat.sub_self, List.replicate_zero, List.append_nil]
def Rd (w : World) (v : Value) (f : Nat → Nat) (len : Nat) : Prop := len ≤ 1000000 ∧ ∃ ad cap, v = .slice ad len cap ∧ ∀ k, k < len → ∃ g o, ad = some ⟨g, o, none⟩ ∧ w.cell? ⟨g, o + k, none⟩ = some (.int .u8 (f k : Nat))
theorem Rd.below {w w' : World} {v : Value} {f : Nat → Nat} {len : Nat} (h : Rd w v f len) (hb : Below w.heap.size w w') : Rd w' v f len := by
  obtain ⟨hl, ad, cap, rfl, hc⟩ := h
  refine ⟨hl, ad, cap, rfl, fun k hk => ?_⟩
  obtain ⟨g, o, e, hcell⟩ := hc k hk
  exact ⟨g, o, e, (hb.cell (p := ⟨g, o + k, none⟩) (lt_cell hcell)).trans hcell⟩
theorem Rd.row {w : World} {lo : Nat} {E : TypeId} {v : Value} {f : Nat → Nat} {len : Nat} (h : w.ownsRow lo E 1 v len (bys f len)) (hl : len ≤ 1000000) : Rd w v f len := by
  refine ⟨hl, ?_⟩
  rcases h.2 with ⟨rfl, rfl⟩ | ⟨g, cap, cur, rfl, _⟩
  · exact ⟨none, 0, rfl, fun k hk => absurd hk (Nat.not_lt_zero _)⟩
  · exact ⟨_, cap, rfl, fun k hk => ⟨g, 0, rfl, by rw [Nat.zero_add, World.ownsRow.cellAt h k (by omega), at_ f len k hk]⟩⟩
def num (f : Nat → Nat) : Nat → Nat
  | 0 => 0
  | i + 1 => num f i + f i * 2 ^ (8 * i)
def val (f : Nat → Nat) (i : Nat) : BitVec 128 := BitVec.ofNat 128 (num f i)
theorem take_step (f : Nat → Nat) (i : Nat) (hf : f i < 256) : val f i + (Wd.of (BitVec.ofNat 64 (f i))) <<< (8 * i) = val f (i + 1) := by
  apply BitVec.eq_of_toNat_eq
  have e : (Wd.of (BitVec.ofNat 64 (f i))).toNat = f i := by
    unfold Wd.of; rw [Wd.mk_nat, BitVec.toNat_ofNat]; simp; omega
  rw [BitVec.toNat_add, BitVec.toNat_shiftLeft, e, val, val, BitVec.toNat_ofNat, BitVec.toNat_ofNat, num, Nat.shiftLeft_eq, ← Nat.add_mod]
theorem num_put (a : BitVec 128) : ∀ i, num (put a) i = a.toNat % 2 ^ (8 * i)
  | 0 => by rw [num, Nat.mul_zero, Nat.pow_zero, Nat.mod_one]
  | i + 1 => by
    rw [num, num_put a i, put, show 8 * (i + 1) = 8 * i + 8 from by omega, Nat.pow_add, Nat.mod_mul, Nat.mul_comm (2 ^ (8 * i))]
theorem back (a : BitVec 128) : val (put a) 16 = a := by
  apply BitVec.eq_of_toNat_eq
  rw [val, BitVec.toNat_ofNat, num_put, Nat.mod_mod]; exact Nat.mod_eq_of_lt a.isLt
end By
namespace Dg
def row (D : List Nat) : List Value := (D.map fun d => ((48 + d : Nat) : Int)).map (Value.int .u8)
end Dg
open Sx in
theorem wput_c (da : BitVec 128) (w0 : World) : Calls Tryz.prog 90 #[.agg #[uH da, uL da]] w0 fun e w' => ∃ v, e = .returned v ∧ w'.ownsRow w0.heap.size 5 1 v 16 (By.bys (By.put da) 16) ∧ Below w0.heap.size w0 w' := by
 refine En Tryz.func90 Tryz.ntmps90 fun A F => ?_
 have H := Sx.Own.start w0
 refine Sp fun _ kk => Zb F (d_box F H rfl rfl [uH da, uL da] rfl) fun g1 A w F H => ?_
 refine Av F fun A F => ?_
 refine Nl kk (Sp fun _ kk => Zr (mk := fun v => v) F (d_make (m := 16) Sx.undU8 Sx.infU8 rfl F H rfl rfl rfl (by decide) (by decide)) fun v1 A w F H => ?_)
 refine Av F fun A F => ?_
 refine Nl kk (Sx.seq fun K3 hK3 => Sp fun _ kk => Av F fun A F => ?_)
 refine Zv F (d_len (i := 0) el_66 F H rfl rfl rfl) fun A F => ?_
 refine Av F fun A F => ?_
 refine Nl kk (wp_block ?_)
 obtain ⟨lg, lc, rfl, hc1, hc2⟩ := H.open (i := 0) rfl (by omega)
 refine loop (fun q A w => ∃ i : Nat, q = 16 - i ∧ i ≤ 16 ∧ Fr 22 A [(1, pT g1 0), (3, sL lg 0 16 lc), (7, iI 16), (8, iI i)] ∧ Sx.Own w0 w [(true, g1, [uH da, uL da])] [⟨true, sL lg 0 16 lc, 5, 1, 16, (By.row da i)⟩]) 16 ⟨0, rfl, Nat.zero_le _, F.to ⟨rfl, rfl, rfl, rfl, trivial⟩, H⟩ ?_
 rintro q A w ⟨i, rfl, hi, F, H⟩
 by_cases hlt : i < 16
 ·skip
  refine Sp fun _ kk => Zv F (Bn bT F rfl rfl rfl (i_lt (decide_eq_true (by omega)))) fun A F => ?_
  refine Nl kk (Sx.seq fun K6 hK6 => condT F rfl (wp_skip (hK6 _ _ (Sx.seq fun K7 hK7 => wp_block (Sp fun _ kk => ?_)))))
  iterate 2 (refine Av F ?_; intro A F)
  refine Nl kk (Sx.plain ?_)
  iterate 4 (refine Av F ?_; intro A F)
  refine Zv F (Bn (iI (8 * i : Nat)) F rfl rfl rfl (i_mulN rfl (in_i64 _ (by omega)))) fun A F => ?_
  refine Zw F (Dc if_125 F H (wrightN_c da (8 * i) (by omega) _)) fun A w F H => ?_
  refine Zv F (d_field (v := uL (da >>> (8 * i))) F rfl rfl (by kernel_rfl)) fun A F => ?_
  refine Zv F (d_conv (v := iB (By.put da i)) F rfl rfl (c_u64_u8 _ _ (By.put_lo da i))) fun A F => ?_
  refine Zv F (d_ixR (k := i) el_66 F rfl rfl rfl (rfl) (by omega)) fun A F => ?_
  refine Zt F (d_storeR (i := 0) (k := i) sz_5 F H rfl rfl rfl rfl rfl rfl (by omega)) fun A w F H => ?_
  refine Sx.nil (hK7 _ _ (Sx.plain ?_))
  refine Zv F (Bn (iI (i + 1 : Nat)) F rfl rfl rfl (i_addN rfl (in_i64 _ (by omega)))) fun A F => ?_
  refine Av F fun A F => ?_
  refine Sx.nil ?_
  try dsimp only [Exit.then]
  exact ⟨16 - (i + 1), by omega, i + 1, rfl, by omega, F.to ⟨rfl, rfl, rfl, rfl, trivial⟩, by rw [← By.row_set da i hlt]; exact H⟩
 ·obtain rfl : i = 16 := by omega
  refine Sp fun _ kk => Av F fun A F => ?_
  refine Nl kk (Sx.seq fun K10 hK10 => condF F rfl (wp_exit ?_))
  try dsimp only [Exit.then, Exit.jump]
  refine exit_here (hK3 _ _ (Sp fun _ kk => ?_))
  iterate 2 (refine Av F ?_; intro A F)
  refine Nl kk (wp_ret ?_)
  try dsimp only [Exit.then, Exit.inBlock, Exit.jump]
  refine ret1 F Tryz.results90 (res_tmp F rfl) ?_
  exact ⟨_, rfl, rowEq (H.row 0 _ rfl rfl) rfl rfl rfl rfl (By.row_all da), H.below⟩
open Sx in
theorem wtake_s (f : Nat → Nat) (hf : ∀ k, f k < 256) (ada : Option Addr) (capa : Nat) (w0 : World) (hca : ∀ k, k < 16 → ∃ b o, ada = some ⟨b, o, none⟩ ∧ w0.cell? ⟨b, o + k, none⟩ = some (iB (f k : Nat))) : Calls Tryz.prog 144 #[.slice ada 16 capa] w0 fun e w' => e = .returned (.tuple #[.agg #[uH (By.val f 16), uL (By.val f 16)], iI 0]) ∧ Below w0.heap.size w0 w' := by
 refine En Tryz.func144 Tryz.ntmps144 fun A F => ?_
 have H := Sx.Own.start w0
 refine Sp fun _ kk => Zb F (d_alloc H rfl L1 zero_26) fun g1 A w F H => ?_
 refine Av F fun A F => ?_
 refine Nl kk (Sx.seq fun K2 hK2 => Sp fun _ kk => Av F fun A F => ?_)
 refine Zv F (d_lenS el_66 F rfl rfl) fun A F => ?_
 refine Av F fun A F => ?_
 refine Nl kk (condF F rfl (wp_skip (hK2 _ _ (Sp fun _ kk => Zb F (d_alloc H rfl L1 zero_26) fun g2 A w F H => ?_))))
 refine Nl kk (Sx.seq fun K5 hK5 => Sp fun _ kk => Av F fun A F => ?_)
 refine Zv F (d_lenS el_66 F rfl rfl) fun A F => ?_
 refine Av F fun A F => ?_
 refine Nl kk (wp_block (loop (fun q A w => ∃ i : Nat, q = 16 - i ∧ i ≤ 16 ∧ Fr 31 A [(2, pT g1 0), (4, pT g2 0), (11, .slice ada 16 capa), (12, iI 16), (13, iI i)] ∧ Sx.Own w0 w [(true, g2, [uH (By.val f i), uL (By.val f i)]), (true, g1, L1)] []) 16 ⟨0, rfl, Nat.zero_le _, F.to ⟨rfl, rfl, rfl, rfl, rfl, trivial⟩, H⟩ ?_))
 rintro q A w ⟨i, rfl, hi, F, H⟩
 by_cases hlt : i < 16
 ·obtain ⟨ga, oa, hada, hcella⟩ := hca _ hlt
  have hfi := hf i
  refine Sp fun _ kk => Zv F (Bn bT F rfl rfl rfl (i_lt (decide_eq_true (by omega)))) fun A F => ?_
  refine Nl kk (Sx.seq fun K8 hK8 => condT F rfl (wp_skip (hK8 _ _ (Sx.seq fun K9 hK9 => wp_block (Sp fun _ kk => Av F fun A F => ?_)))))
  refine Zv F (d_ix1 (k := i) (g := ga) (off := oa) el_66 F rfl rfl hada rfl (rfl) (by omega)) fun A F => ?_
  refine Zv F (d_loadF one_5 F H rfl rfl hcella) fun A F => ?_
  iterate 2 (refine Av F ?_; intro A F)
  refine Nl kk ?_
  have F := F.tq [(2, pT g1 0), (4, pT g2 0), (11, .slice ada 16 capa), (12, iI 16), (13, iI i), (14, bT), (15, iI i), (16, .pointer (some ⟨ga, oa + i, none⟩)), (17, iB (f i)), (5, iI i), (6, iB (f i))] rfl
  refine Dn F [some (.agg #[uH (By.val f i), uL (By.val f i)]), some (iB (f i)), some (uN (BitVec.ofNat 64 (f i))), some (.agg #[uH (Wd.of (BitVec.ofNat 64 (f i))), uL (Wd.of (BitVec.ofNat 64 (f i)))]), some (iI i), some (iI (8 * i : Nat)), some (.agg #[uH ((Wd.of (BitVec.ofNat 64 (f i))) <<< (8 * i)), uL ((Wd.of (BitVec.ofNat 64 (f i))) <<< (8 * i))]), some (.tuple #[.agg #[uH ((By.val f i) + ((Wd.of (BitVec.ofNat 64 (f i))) <<< (8 * i))), uL ((By.val f i) + ((Wd.of (BitVec.ofNat 64 (f i))) <<< (8 * i)))], .bool (Wd.over (By.val f i) ((Wd.of (BitVec.ofNat 64 (f i))) <<< (8 * i)))]), some (.tuple #[.agg #[uH ((By.val f i) + ((Wd.of (BitVec.ofNat 64 (f i))) <<< (8 * i))), uL ((By.val f i) + ((Wd.of (BitVec.ofNat 64 (f i))) <<< (8 * i)))], .bool (Wd.over (By.val f i) ((Wd.of (BitVec.ofNat 64 (f i))) <<< (8 * i)))]), some (.agg #[uH ((By.val f i) + ((Wd.of (BitVec.ofNat 64 (f i))) <<< (8 * i))), uL ((By.val f i) + ((Wd.of (BitVec.ofNat 64 (f i))) <<< (8 * i)))]), some (.bool (Wd.over (By.val f i) ((Wd.of (BitVec.ofNat 64 (f i))) <<< (8 * i)))), none] (fun L A w => Sx.Own w0 w [(true, g2, (cond (L 11) [uH ((By.val f i) + ((Wd.of (BitVec.ofNat 64 (f i))) <<< (8 * i))), uL ((By.val f i) + ((Wd.of (BitVec.ofNat 64 (f i))) <<< (8 * i)))] [uH (By.val f i), uL (By.val f i)])), (true, g1, L1)] []) H.drew ?_ ?_
  ·refine ⟨?_, ?_, ?_, ?_, ?_, ?_, ?_, ?_, ?_, ?_, ?_, ?_, trivial⟩
   ·intro L A w up hun hd F H
    have f11 : L 11 = false := up 11 0 rfl hun
    have G := H; rw [f11] at G
    refine step_on rfl (Lr 0 [uH (By.val f i), uL (By.val f i)] rw_26 F G) ?_
    rintro xv w' ⟨hx, rfl⟩
    exact ⟨Cs hx, H⟩
   ·exact Sa
   ·exact SV (fun _ _ _ F _ => d_conv (v := uN (BitVec.ofNat 64 (f i))) F rfl rfl (c_u8_u64 _ (by omega) _))
   ·intro L A w up hun hd F H
    have f11 : L 11 = false := up 11 3 rfl hun
    rw [f11] at H
    refine step_on rfl (Dc if_15 F H (wofV_c (BitVec.ofNat 64 (f i)) _)) ?_
    rintro xv w' ⟨hx, H⟩
    exact ⟨Cs hx, (by show Sx.Own _ _ _ _; rw [show Inv.add L 3 11 = false from f11]; exact H)⟩
   ·exact Sa
   ·exact SV (fun _ _ _ F _ => Bn (iI (8 * i : Nat)) F rfl rfl rfl (i_mulN rfl (in_i64 _ (by omega))))
   ·intro L A w up hun hd F H
    have f11 : L 11 = false := up 11 6 rfl hun
    rw [f11] at H
    refine step_on rfl (Dc if_42 F H (wleftN_c (Wd.of (BitVec.ofNat 64 (f i))) (8 * i) (by omega) _)) ?_
    rintro xv w' ⟨hx, H⟩
    exact ⟨Cs hx, (by show Sx.Own _ _ _ _; rw [show Inv.add L 6 11 = false from f11]; exact H)⟩
   ·intro L A w up hun hd F H
    have f11 : L 11 = false := up 11 7 rfl hun
    rw [f11] at H
    refine step_on rfl (Dc if_14 F H (wadd_c (By.val f i) ((Wd.of (BitVec.ofNat 64 (f i))) <<< (8 * i)) _)) ?_
    rintro xv w' ⟨hx, H⟩
    exact ⟨Cs hx, (by show Sx.Own _ _ _ _; rw [show Inv.add L 7 11 = false from f11]; exact H)⟩
   ·exact Sa
   ·exact Sa
   ·exact Sa
   ·intro L A w up hun hd F H
    have f11 : L 11 = false := hun
    rw [f11] at H
    refine step_on rfl (d_store (i := 0) (xs := [uH ((By.val f i) + ((Wd.of (BitVec.ofNat 64 (f i))) <<< (8 * i))), uL ((By.val f i) + ((Wd.of (BitVec.ofNat 64 (f i))) <<< (8 * i)))]) (us := [uH ((By.val f i) + ((Wd.of (BitVec.ofNat 64 (f i))) <<< (8 * i))), uL ((By.val f i) + ((Wd.of (BitVec.ofNat 64 (f i))) <<< (8 * i)))]) sz_26 F H rfl rfl rfl rfl rfl rfl rfl (Nat.le_of_ble_eq_true rfl) rfl) ?_
    intro xv w' H
    exact ⟨Cn, H⟩
  ·intro L A w hL F H
   have t11 : L 11 = true := hL 11 rfl
   rw [t11] at H
   have F := F.tq [(2, pT g1 0), (4, pT g2 0), (11, .slice ada 16 capa), (12, iI 16), (13, iI i), (14, bT), (15, iI i), (16, .pointer (some ⟨ga, oa + i, none⟩)), (17, iB (f i)), (5, iI i), (6, iB (f i))] rfl
   refine hK9 _ _ (Sx.plain ?_)
   refine Zv F (Bn (iI (i + 1 : Nat)) F rfl rfl rfl (i_addN rfl (in_i64 _ (by omega)))) fun A F => ?_
   refine Av F fun A F => ?_
   refine Sx.nil ?_
   try dsimp only [Exit.then]
   exact ⟨16 - (i + 1), by omega, i + 1, rfl, by omega, F.to ⟨rfl, rfl, rfl, rfl, rfl, trivial⟩, by rw [← By.take_step f i hfi]; exact H⟩
 ·obtain rfl : i = 16 := by omega
  refine Sp fun _ kk => Av F fun A F => ?_
  refine Nl kk (Sx.seq fun K12 hK12 => condF F rfl (wp_exit ?_))
  try dsimp only [Exit.then, Exit.jump]
  refine exit_here (hK5 _ _ (Sp fun _ kk => Av F fun A F => ?_))
  refine Zs 1 [uH (By.val f 16), uL (By.val f 16)] sz_26 F H fun A w F H => ?_
  refine Av F fun A F => ?_
  refine Nl kk (wp_ret ?_)
  try dsimp only [Exit.then, Exit.inBlock, Exit.jump]
  refine ret2 F Tryz.results144 (res_row (i := 1) (xs := [uH (By.val f 16), uL (By.val f 16)]) rw_26 F H rfl rfl rfl rfl) (res_tmp F rfl) ⟨?_, H.below⟩
  rfl
theorem wtake_ok (f : Nat → Nat) (hf : ∀ k, f k < 256) (va : Value) (w : World) (ha : By.Rd w va f 16) : Calls Tryz.prog 144 #[va] w fun e w' => e = .returned (.tuple #[.agg #[.int .u64 ((Wd.hi (By.val f 16)).toNat), .int .u64 ((Wd.lo (By.val f 16)).toNat)], .int .i64 0]) ∧ Below w.heap.size w w' := by
  obtain ⟨hl, ada, capa, rfl, hca⟩ := ha
  exact wtake_s f hf ada capa w hca

section
open Go Go.RowKit Go.ChangeMaps
namespace Sx
section
variable {P : Program} {w0 w : World} {bs bs' : List Bx} {rs rs' : List Rx} {K : Nat → Option Obj}
theorem Own.sel (h : Own w0 w bs rs K) (f g : Nat → Nat) (hf : ∀ i j, i < bs'.length → j < bs'.length → f i = f j → i = j) (hg : ∀ i j, i < rs'.length → j < rs'.length → g i = g j → i = j)
    (hb : ∀ i p, bs'[i]? = some p → bs[f i]? = some p) (hr : ∀ i p, rs'[i]? = some p → rs[g i]? = some p) : Own w0 w bs' rs' K := by
  have lt : ∀ {α : Type} {l : List α} {i : Nat} {p : α}, l[i]? = some p → i < l.length := fun h => (List.getElem?_eq_some_iff.1 h).1
  refine ⟨h.below, fun i b vs hi => h.box _ b vs (hb _ _ hi), fun i j b vs us hi hj => hf i j (lt hi) (lt hj) (h.nd _ _ b vs us (hb _ _ hi) (hb _ _ hj)), fun i r hi ho => h.row _ r (hr _ _ hi) ho, fun i j b vs r hi hj ho => h.rb _ _ b vs r (hb _ _ hi) (hr _ _ hj) ho,
    fun i j g' r s hi hj ho hs h1 h2 => hg i j (lt hi) (lt hj) (h.rr _ _ g' r s (hr _ _ hi) (hr _ _ hj) ho hs h1 h2), fun k o hk => ?_⟩
  obtain ⟨a, b, c, d⟩ := h.kp k o hk
  exact ⟨a, b, fun i vs hi => c _ vs (hb _ _ hi), fun i r hi ho => d _ r (hr _ _ hi) ho⟩
theorem pick_at {α : Type} {xs ys r : List α} {is : List Nat} (hc : is.map (fun i => xs[i]?) = ys.map some) (i : Nat) (p : α) (h : (ys ++ r)[i]? = some p) :
    (xs ++ r)[if i < ys.length then is.getD i 0 else xs.length + (i - ys.length)]? = some p := by
  by_cases hi : i < ys.length
  · rw [if_pos hi]
    rw [List.getElem?_append_left hi] at h
    have h1 : (ys.map some)[i]? = some (some p) := by rw [List.getElem?_map, h]; rfl
    rw [← hc, List.getElem?_map] at h1
    cases hj : is[i]? with
    | none => rw [hj] at h1; cases h1
    | some j =>
      rw [hj] at h1
      have h2 : xs[j]? = some p := Option.some.inj h1
      rw [List.getD_eq_getElem?_getD, hj]
      show (xs ++ r)[j]? = some p
      rw [List.getElem?_append_left (List.getElem?_eq_some_iff.1 h2).1]; exact h2
  · rw [if_neg hi]
    rw [List.getElem?_append_right (by omega)] at h
    rw [List.getElem?_append_right (by omega), show xs.length + (i - ys.length) - xs.length = i - ys.length from by omega]; exact h
theorem pick_inj {α : Type} {xs ys : List α} {is : List Nat} (hn : is.Nodup) (hc : is.map (fun i => xs[i]?) = ys.map some) (i j : Nat) (h : (if i < ys.length then is.getD i 0 else xs.length + (i - ys.length)) = (if j < ys.length then is.getD j 0 else xs.length + (j - ys.length))) : i = j := by
  have hl : is.length = ys.length := by have := congrArg List.length hc; simpa using this
  have at_ : ∀ k, k < ys.length → ∃ q, is[k]? = some q ∧ q < xs.length := by
    intro k hk
    have h1 : (is.map (fun i => xs[i]?))[k]? = some (some ys[k]) := by rw [hc, List.getElem?_map, List.getElem?_eq_getElem hk]; rfl
    rw [List.getElem?_map] at h1
    cases hq : is[k]? with
    | none => rw [hq] at h1; cases h1
    | some q =>
      rw [hq] at h1
      exact ⟨q, rfl, (List.getElem?_eq_some_iff.1 (Option.some.inj h1)).1⟩
  by_cases hi : i < ys.length <;> by_cases hj : j < ys.length
  · rw [if_pos hi, if_pos hj] at h
    obtain ⟨p, hp, _⟩ := at_ i hi
    obtain ⟨q, hq, _⟩ := at_ j hj
    rw [List.getD_eq_getElem?_getD, List.getD_eq_getElem?_getD, hp, hq] at h
    have e : p = q := h
    subst e
    exact (List.getElem?_inj (List.getElem?_eq_some_iff.1 hp).1 hn).1 (hp.trans hq.symm)
  · rw [if_pos hi, if_neg hj] at h
    obtain ⟨p, hp, hlt⟩ := at_ i hi
    rw [List.getD_eq_getElem?_getD, hp] at h
    have e : p = xs.length + (j - ys.length) := h
    omega
  · rw [if_neg hi, if_pos hj] at h
    obtain ⟨p, hp, hlt⟩ := at_ j hj
    rw [List.getD_eq_getElem?_getD, hp] at h
    have e : xs.length + (i - ys.length) = p := h
    omega
  · rw [if_neg hi, if_neg hj] at h; omega
theorem Own.pick (xs : List Bx) (us : List Rx) (h : Own w0 w (xs ++ bs) (us ++ rs) K) (is js : List Nat) (ys : List Bx) (vs : List Rx) (hn : is.Nodup) (hm : js.Nodup) (hc : is.map (fun i => xs[i]?) = ys.map some) (ht : js.map (fun i => us[i]?) = vs.map some) : Own w0 w (ys ++ bs) (vs ++ rs) K :=
  h.sel _ _ (fun i j _ _ => pick_inj hn hc i j) (fun i j _ _ => pick_inj hm ht i j) (pick_at hc) (pick_at ht)
def okIx (n : Nat) (is : List Nat) : Bool := decide is.Nodup && is.all fun i => Nat.blt i n
theorem pickN_at {α : Type} {l : List α} {n : Nat} {is : List Nat} (ha : ∀ i ∈ is, i < n ∧ i < l.length) (i : Nat) (p : α) (h : (is.filterMap (fun i => l[i]?) ++ l.drop n)[i]? = some p) :
    l[if i < is.length then is.getD i 0 else n + (i - is.length)]? = some p ∧ (is.filterMap (fun i => l[i]?)).length = is.length := by
  have e : is.filterMap (fun i => l[i]?) = is.attach.map (fun i => l[i.1]'(ha i.1 i.2).2) := by
    clear h
    induction is with
    | nil => rfl
    | cons a r ih =>
      have h1 := (ha a (List.mem_cons_self ..)).2
      rw [List.filterMap_cons, List.getElem?_eq_getElem h1]
      simp only [List.attach_cons, List.map_cons, List.map_map]
      rw [ih (fun i hi => ha i (List.mem_cons_of_mem _ hi))]
      rfl
  have hl : (is.filterMap (fun i => l[i]?)).length = is.length := by rw [e]; simp
  refine ⟨?_, hl⟩
  by_cases hi : i < is.length
  · rw [if_pos hi]
    rw [List.getElem?_append_left (by omega), e] at h
    simp only [List.getElem?_map, List.getElem?_attach] at h
    have hx : is[i]? = some is[i] := List.getElem?_eq_getElem hi
    rw [List.getD_eq_getElem?_getD, hx]
    show l[is[i]]? = some p
    have h2 : (is.attach.map (fun i => l[i.1]'(ha i.1 i.2).2))[i]? = some p := by simpa using h
    rw [List.getElem?_map, List.getElem?_eq_getElem (by simpa using hi)] at h2
    simp at h2
    rw [List.getElem?_eq_getElem (ha _ (List.getElem_mem hi)).2, h2]
  · rw [if_neg hi]
    rw [List.getElem?_append_right (by omega), List.getElem?_drop, hl] at h
    exact h
theorem pickN_inj {n : Nat} {is : List Nat} (hn : is.Nodup) (ha : ∀ i ∈ is, i < n) (i j : Nat) (h : (if i < is.length then is.getD i 0 else n + (i - is.length)) = (if j < is.length then is.getD j 0 else n + (j - is.length))) : i = j := by
  have at_ : ∀ k (hk : k < is.length), is.getD k 0 = is[k] ∧ is[k] < n := fun k hk => ⟨by simp [List.getD_eq_getElem?_getD, hk], ha _ (List.getElem_mem hk)⟩
  by_cases hi : i < is.length <;> by_cases hj : j < is.length
  · rw [if_pos hi, if_pos hj, (at_ i hi).1, (at_ j hj).1] at h
    exact (List.getElem?_inj hi hn).1 (by rw [List.getElem?_eq_getElem hi, List.getElem?_eq_getElem hj, h])
  · rw [if_pos hi, if_neg hj, (at_ i hi).1] at h; have := (at_ i hi).2; omega
  · rw [if_neg hi, if_pos hj, (at_ j hj).1] at h; have := (at_ j hj).2; omega
  · rw [if_neg hi, if_neg hj] at h; omega
theorem Own.pickN (h : Own w0 w bs rs K) (n m : Nat) (is js : List Nat) (hn : okIx n is = true := by decide) (hm : okIx m js = true := by decide) (hl : Nat.ble n bs.length = true := by rfl) (hk : Nat.ble m rs.length = true := by rfl) :
    Own w0 w (is.filterMap (fun i => bs[i]?) ++ bs.drop n) (js.filterMap (fun i => rs[i]?) ++ rs.drop m) K := by
  unfold okIx at hn hm
  rw [Bool.and_eq_true] at hn hm
  have h1 : ∀ i ∈ is, i < n ∧ i < bs.length := fun i hi => by have := List.all_eq_true.1 hn.2 i hi; have := Nat.le_of_ble_eq_true hl; simp [Nat.blt_eq] at *; omega
  have h2 : ∀ i ∈ js, i < m ∧ i < rs.length := fun i hi => by have := List.all_eq_true.1 hm.2 i hi; have := Nat.le_of_ble_eq_true hk; simp [Nat.blt_eq] at *; omega
  exact h.sel _ _ (fun i j _ _ => pickN_inj (of_decide_eq_true hn.1) (fun i hi => (h1 i hi).1) i j) (fun i j _ _ => pickN_inj (of_decide_eq_true hm.1) (fun i hi => (h2 i hi).1) i j)
    (fun i p hp => (pickN_at h1 i p hp).1) (fun i p hp => (pickN_at h2 i p hp).1)
theorem Own.rowBox {i g m c z : Nat} {E : TypeId} {xs : List Value} (h : Own w0 w bs rs K) (hi : rs[i]? = some ⟨true, .slice (some ⟨g, 0, none⟩) m c, E, z, m, xs⟩) : Own w0 w ((true, g, xs) :: bs) (rs.set i ⟨false, undef, E, z, 0, []⟩) K := by
  have hr : w.ownsRow w0.heap.size E z (.slice (some ⟨g, 0, none⟩) m c) m xs := h.row i _ hi rfl
  have old : ∀ {j r}, (rs.set i ⟨false, undef, E, z, 0, []⟩)[j]? = some r → r.on = true → j ≠ i ∧ rs[j]? = some r := by
    intro j r hj ho
    by_cases e : j = i
    · subst e
      rw [List.getElem?_set_self (List.getElem?_eq_some_iff.1 hi).1] at hj
      cases hj; cases ho
    · rw [List.getElem?_set_ne (Ne.symm e)] at hj; exact ⟨e, hj⟩
  have hg : w0.heap.size ≤ g ∧ g < w.heap.size := by
    rcases hr.2 with ⟨e, _⟩ | ⟨g', cap, cur, e, h1, h2, _⟩
    · cases e
    · cases e; exact ⟨h1, (Array.getElem?_eq_some_iff.1 h2).1⟩
  have own : (Value.slice (some ⟨g, 0, none⟩) m c).ownBlock = some g := rfl
  refine ⟨h.below, fun j b vs hj => ?_, fun j k b vs us hj hk => ?_, fun j r hj ho => h.row j r (old hj ho).2 ho, fun j k b vs r hj hk ho => ?_, fun j k g' r s hj hk ho hs h1 h2 => h.rr j k g' r s (old hj ho).2 (old hk hs).2 ho hs h1 h2, fun k o hk => ?_⟩
  · cases j with
    | zero =>
      cases hj
      refine ⟨fun j u hu => ⟨?_, World.ownsRow.frozenAt hr j⟩, hg⟩
      have hl := (List.getElem?_eq_some_iff.1 hu).1
      rw [World.ownsRow.cellAt hr j (by have := hr.1; omega), hu]
    | succ j => exact h.box j b vs hj
  · cases j with
    | zero => cases k with
      | zero => rfl
      | succ k => cases hj; exact absurd own (h.rb k i g us _ hk hi rfl)
    | succ j => cases k with
      | zero => cases hk; exact absurd own (h.rb j i g vs _ hj hi rfl)
      | succ k => rw [h.nd j k b vs us hj hk]
  · obtain ⟨hne, hk'⟩ := old hk ho
    cases j with
    | zero => cases hj; exact fun e => hne (h.rr k i g r _ hk' hi ho rfl e own)
    | succ j => exact h.rb j k b vs r hj hk' ho
  · obtain ⟨a, b, c', d⟩ := h.kp k o hk
    refine ⟨a, b, fun j vs hj => ?_, fun j r hj ho => d j r (old hj ho).2 ho⟩
    cases j with
    | zero => cases hj; exact d i _ hi rfl own
    | succ j => exact c' j vs hj
theorem Own.unkeep1 {r : Nat} {o : Obj} (h : Own w0 w bs rs (Tb.upd K r o)) (hk : K r = none) : Own w0 w bs rs K :=
  ⟨h.below, h.box, h.nd, h.row, h.rb, h.rr, fun k ob e => h.kp k ob (by
    unfold Tb.upd
    by_cases hkr : k = r
    · rw [hkr, hk] at e; cases e
    · rw [if_neg hkr]; exact e)⟩
theorem Own.padG (h : Own w0 w bs rs K) (cs : List Bx) (ts : List Rx) (hc : cs.all (fun c => !c.1) = true := by rfl) (ht : ts.all (fun t => !t.on) = true := by rfl) : Own w0 w (cs ++ bs) (ts ++ rs) K := by
  have kb : ∀ {i : Nat} {b : Nat} {vs : List Value}, (cs ++ bs)[i]? = some (true, b, vs) → cs.length ≤ i ∧ bs[i - cs.length]? = some (true, b, vs) := by
    intro i b vs hi
    by_cases hl : i < cs.length
    · rw [List.getElem?_append_left hl] at hi
      have := List.all_eq_true.1 hc _ (List.mem_of_getElem? hi)
      simp at this
    · rw [List.getElem?_append_right (by omega)] at hi; exact ⟨by omega, hi⟩
  have kr : ∀ {i : Nat} {r : Rx}, (ts ++ rs)[i]? = some r → r.on = true → ts.length ≤ i ∧ rs[i - ts.length]? = some r := by
    intro i r hi ho
    by_cases hl : i < ts.length
    · rw [List.getElem?_append_left hl] at hi
      have := List.all_eq_true.1 ht _ (List.mem_of_getElem? hi)
      rw [ho] at this; cases this
    · rw [List.getElem?_append_right (by omega)] at hi; exact ⟨by omega, hi⟩
  refine ⟨h.below, fun i b vs hi => h.box _ b vs (kb hi).2, fun i j b vs us hi hj => ?_, fun i r hi ho => h.row _ r (kr hi ho).2 ho, fun i j b vs r hi hj ho => h.rb _ _ b vs r (kb hi).2 (kr hj ho).2 ho, fun i j g r s hi hj ho hs h1 h2 => ?_, fun k o hk => ?_⟩
  · have := h.nd _ _ b vs us (kb hi).2 (kb hj).2
    have := (kb hi).1; have := (kb hj).1; omega
  · have := h.rr _ _ g r s (kr hi ho).2 (kr hj hs).2 ho hs h1 h2
    have := (kr hi ho).1; have := (kr hj hs).1; omega
  · obtain ⟨a, b, c, d⟩ := h.kp k o hk
    exact ⟨a, b, fun i vs hi => c _ vs (kb hi).2, fun i r hi ho => d _ r (kr hi ho).2 ho⟩
theorem Own.xs {i : Nat} {on : Bool} {v : Value} {E : TypeId} {z m : Nat} {xs ys : List Value} (h : Own w0 w bs rs K) (hi : rs[i]? = some ⟨on, v, E, z, m, xs⟩) (e : xs = ys) : Own w0 w bs (rs.set i ⟨on, v, E, z, m, ys⟩) K := by
  subst e
  have : rs.set i ⟨on, v, E, z, m, xs⟩ = rs := by
    refine List.ext_getElem? fun j => ?_
    by_cases hj : i = j
    · subst hj; rw [List.getElem?_set_self (List.getElem?_eq_some_iff.1 hi).1, hi]
    · rw [List.getElem?_set_ne hj]
  rw [this]; exact h
end
section
variable {P : Program} {ds : List Deferred} {ops : Array Oper} {Q : Exit → Act → World → Prop} {w0 w : World} {a : Act} {o : Oper} {rest : List Oper} {n : Nat} {kv : List (Nat × Value)} {bs : List Bx} {rs : List Rx} {K : Nat → Option Obj}
theorem sX {d : Nat} {R : Value → World → Prop} (F : Fr n a kv ds) (D : Does P o a w R) (hg : Region.wanted o (yielded ops a.tmps) = true) (hd : o.dst = some d) (hn : d < n)
    (h : ∀ x w', R x w' → ∀ a', Fr n a' ((d, x) :: kv) ds → wpList P ops Q rest a' w') : wpList P ops Q (o :: rest) a w := by
  refine step hg D ?_
  intro x w' r
  rw [hd]
  exact h x w' r _ (F.put hn _)
theorem sX0 {R : Value → World → Prop} (F : Fr n a kv ds) (D : Does P o a w R) (hg : Region.wanted o (yielded ops a.tmps) = true) (hd : o.dst = none)
    (h : ∀ x w', R x w' → ∀ a', Fr n a' kv ds → wpList P ops Q rest a' w') : wpList P ops Q (o :: rest) a w := by
  refine step hg D ?_
  intro x w' r
  rw [hd]
  exact h x w' r _ (F.put0 _)
theorem sDefer {fn : Fn} {c : Operand} {xs : Array Operand} {ts : Array TypeId} {vs fv cv : List Value} (F : Fr n a kv ds) (ho : o.op = .defer { callee := .value c, args := xs, argTypes := ts }) (hc : ev kv c = some (.func fn fv.toArray cv.toArray)) (hxs : xs.toList.map (ev kv) = vs.map some) (hg : Region.wanted o (yielded ops a.tmps) = true) (hd : o.dst = none)
    (h : ∀ a', Fr n a' kv ({ target := .fn fn cv.toArray, args := (fv ++ vs).toArray } :: ds) → wpList P ops Q rest a' w) : wpList P ops Q (o :: rest) a w := by
  have hr : (execOp a.eval o).run P w = .ok (.defer { target := .fn fn cv.toArray, args := (fv ++ vs).toArray }) w := by
    unfold execOp; rw [ho]
    simp only [resolve, args_eq F hxs, F.ev hc, Deferred.ofValue]
    simp
  unfold wpList
  rw [if_pos hg]
  refine .inl ?_
  unfold Oper.wp
  rw [hr, Oper.upon_defer, hd]
  exact h _ ⟨F.size, congrArg _ F.defers, F.get⟩
theorem enterD {f : FuncId} {fn : Func} {c : Code} {args : List Value} {R : Ending → World → Prop} {n : Nat} (hf : P.funcs[f]? = some fn) (hb : fn.body = some c) (hn : fn.ntmps = n) (hl : args.length ≤ n)
    (h : ∀ a, Fr n a (kvOf 0 args) → c.wp P (bodyPostD P fn R) a w) : Calls P f args.toArray w R := by
  refine calls_of_wp_defers hf hb (h _ ?_)
  have := Fr.start args n
  rw [show args.length + (n - args.length) = n from by omega] at this
  rw [hn]
  simpa using this
theorem enterDD {f : FuncId} {fn : Func} {c : Code} {args : List Value} {R : Ending → World → Prop} {u : FrameMode} {n : Nat} (hf : P.funcs[f]? = some fn) (hb : fn.body = some c) (hn : fn.ntmps = n) (hl : args.length ≤ n)
    (h : ∀ a, Fr n a (kvOf 0 args) → c.wp P (bodyPost P fn R) a w) : CallsD P f args.toArray u w fun e u' w' => u' = u ∧ R e w' := by
  refine callsD_of_wp hf hb (h _ ?_)
  have := Fr.start args n
  rw [show args.length + (n - args.length) = n from by omega] at this
  rw [hn]
  simpa using this
theorem leave1 {f : FuncId} {fn : Func} {R : Ending → World → Prop} {fv vs cv : List Value} {S : Value → World → Prop} (F : Fr n a kv [{ target := .fn (.func f) cv.toArray, args := (fv ++ vs).toArray }]) (hf : isFn P f)
    (hD : CallsD P f (fv ++ vs ++ cv).toArray .returning w fun e u' w' => u' = .returning ∧ ∃ x, e = .returned x ∧ S x w') (h : ∀ x w', S x w' → ∃ v, (results fn a.tmps).run P w' = .ok v w' ∧ R (.returned v) w') : bodyPostD P fn R .ret a w := by
  show Leaves P fn a.tmps R a.defers .returning w
  rw [F.defers]
  refine leaves_cons (f := f) (args := (fv ++ vs ++ cv).toArray) (fun h => by cases h) ?_ (hD.mono ?_)
  · have := hf (fv ++ vs ++ cv).toArray w
    simpa [invoke] using this
  · rintro e u' w' ⟨rfl, x, rfl, hS⟩
    show Leaves P fn a.tmps R [] (settle .returning) w'
    exact h x w' hS
theorem res2 {fn : Func} {r s : ResultVar} {v u : Value} {tm : Array Value} (hrs : fn.results = #[r, s]) (h : resOf P tm w r v) (h2 : resOf P tm w s u) : (results fn tm).run P w = .ok (.tuple #[v, u]) w := by
  unfold resOf at h h2
  rw [results_eq, hrs]
  simp [Sem.run_bind, h, h2]
theorem upd_upd (K : Nat → Option Obj) (r : Nat) (o o' : Obj) : Tb.upd (Tb.upd K r o) r o' = Tb.upd K r o' := by
  funext k; unfold Tb.upd; split <;> rfl
theorem d_mapIns {m x y : Operand} {t kt et : TypeId} {r : Nat} {ob : Obj} {l : List (Int × Value)} {h : Int} {v : Value} (hm : P.underlying t = some (.map kt et)) (ht : P.underlying kt = some (.int .i64)) (F : Fr n a kv ds) (H : Own w0 w bs rs K) (ho : o.op = .insert t m x y)
    (hx : ev kv m = some (.map (some r))) (hy : ev kv x = some (.int .i64 h)) (hv : ev kv y = some v) (hk : K r = some ob) (hl : Tb.MapIs ob l) (hn : l.find? (fun q => h == q.1) = none) : Does P o a w (fun _ w' => ∃ ob', Tb.MapIs ob' (l ++ [(h, v)]) ∧ Own w0 w' bs rs (Tb.upd K r ob')) := by
  obtain ⟨es, clock, rfl, hes⟩ := hl
  have hh := (H.kp r _ hk).1
  have hr : (execOp a.eval o).run P w = .ok .skip (setBlock w r (.map (es.push { key := .int .i64 h, val := v, born := clock }) (clock + 1))) := by
    unfold execOp; rw [ho]
    simp only [F.ev hx, F.ev hy, F.ev hv]
    unfold Instr.mapUpdate
    simp only [Sem.run_bind, run_underlying hm, Result.andThen_ok, MapKept.run_getObj_map hh, run_check ht, run_find ht hes, Tb.ixs_none h l 0 hn, MapKept.run_setObj_map _ hh]
    rfl
  refine (does_skip hr).mono ?_
  rintro _ w' rfl
  refine ⟨.map (es.push { key := .int .i64 h, val := v, born := clock }) (clock + 1), ⟨_, _, rfl, by rw [Array.toList_push, List.map_append, hes, List.map_append]; rfl⟩, H.setKeep hk ⟨rfl, rfl, rfl, by simp [setBlock], fun i _ hi => heap_setBlock_other hh _ (fun e => hi (by rw [e]))⟩ (heap_setBlock_same hh _)⟩
theorem d_sliceL' {x j : Operand} {t E : TypeId} {z bytes l len cap g off : Nat} {kd : IntKind} {i : Int} (hT : elemT P t E z bytes) (F : Fr n a kv ds) (ho : o.op = .slice t x (some j) none none) (hx : ev kv x = some (.slice (some ⟨g, off, none⟩) len cap)) (hj : ev kv j = some (.int kd i)) (hi : i = (l : Int)) (hk : l ≤ len) (hc : cap ≠ l) :
    Does P o a w (fun y w' => y = .slice (some ⟨g, off + l * z, none⟩) (len - l) (cap - l) ∧ w' = w) := by
  have h := d_sliceL (w := w) hT F ho hx hj hi hk
  rw [if_neg hc] at h
  exact h
theorem d_sliceG {t : TypeId} {x : Operand} {l h m : Option Operand} {xv v : Value} {lv hv mv : Option Value} (F : Fr n a kv ds) (ho : o.op = .slice t x l h m) (hx : ev kv x = some xv) (hl : l.map (ev kv) = lv.map some) (hh : h.map (ev kv) = hv.map some) (hm : m.map (ev kv) = mv.map some)
    (hr : (Instr.sliceAt t xv lv hv mv).run P w = .ok v w) : Does P o a w (fun y w' => y = v ∧ w' = w) := by
  have eo : ∀ {q : Option Operand} {u : Option Value}, q.map (ev kv) = u.map some → q.map a.eval = u := by
    intro q u e
    cases q with
    | none => cases u with
      | none => rfl
      | some u => cases e
    | some q => cases u with
      | none => cases e
      | some u => exact congrArg some (F.ev (Option.some.inj e))
  refine does_run ?_
  unfold execOp; rw [ho]
  simp only [F.ev hx, eo hl, eo hh, eo hm, Sem.run_bind, hr]
  rfl
theorem d_appendW {s x : Operand} {t E : TypeId} {z bytes i m k c : Nat} {v : Value} {xs news : List Value} {ad : Addr} (hT : elemT P t E z bytes) (F : Fr n a kv ds) (H : Own w0 w bs rs K) (ho : o.op = .call { callee := .builtin .append, args := #[s, x], argTypes := #[t, t] })
    (hs : ev kv s = some v) (hx : ev kv x = some (.slice (some ad) m c)) (hi : rs[i]? = some ⟨true, v, E, z, k, xs⟩) (hl : news.length = m * z) (hn : ∀ j u, news[j]? = some u → w.cell? (ad.add j) = some u) (h1 : ones news = true) (hz : Nat.ble 1 z = true)
    (h63 : k + m ≤ 1000000) (hb : bytes ≤ 1000) : Does P o a w (fun y w' => ∃ v, y = v ∧ Own w0 w' bs (rs.set i ⟨true, v, E, z, k + m, xs ++ news⟩) K) := by
  obtain ⟨ht, hinf⟩ := hT
  cases hq : P.info? E with
  | none => rw [hq] at hinf; cases hinf
  | some inf =>
    rw [hq] at hinf
    simp only [Option.map_some, Option.some.injEq, Prod.mk.injEq] at hinf
    obtain ⟨hz1, hz2, hz3⟩ := hinf
    cases hzv : inf.zero with
    | none => rw [hzv] at hz1; cases hz1
    | some zv =>
      rw [hzv] at hz1
      simp only [Option.map_some, Option.some.injEq] at hz1
      have hown : w.ownsRow w0.heap.size E z v k xs := H.row i _ hi rfl
      obtain ⟨v', w', hr, h2, h3, _, h5⟩ := run_append_own_at (P := P) w w0.heap.size t o.type E inf zv z bytes ht hq hzv hz2 hz3 hz1 (Nat.le_of_ble_eq_true hz) v k xs hown ad m c news hl
        (fun j u hu => hn j u hu) (fun u hu => List.all_eq_true.1 h1 u hu) (by unfold maxLen; omega) (by have := Nat.mul_le_mul h63 hb; omega) H.below.size
      refine (does_run (v := v') (w' := w') ?_).mono ?_
      · unfold execOp
        simp only [ho, resolve, invoke, builtin, Sem.run_bind, Sem.run_pure, Result.andThen_ok, List.map_toArray, List.map_cons, List.map_nil, F.ev hs, F.ev hx, hr]
      · rintro y w'' ⟨rfl, rfl⟩
        exact ⟨_, rfl, H.grow hi rfl (r' := ⟨true, y, E, z, k + m, xs ++ news⟩) h2 h3 h5⟩
theorem box_part {b off : Nat} {vs : List Value} (h : BoxAt w b vs) {news : List Value} (hn : (vs.drop off).take news.length = news) (j : Nat) (u : Value) (hu : news[j]? = some u) : w.cell? ((⟨b, off, none⟩ : Addr).add j) = some u := by
  have hj := (List.getElem?_eq_some_iff.1 hu).1
  have : vs[off + j]? = some u := by
    rw [← hn, List.getElem?_take, if_pos hj, List.getElem?_drop] at hu; exact hu
  rw [Addr.add_mid]
  exact (h _ _ this).1
theorem d_copyB {d s : Operand} {dT sT E : TypeId} {b k i dl dc sl sc m : Nat} {ad : Addr} {vs us cs : List Value} (hu : P.underlying dT = some (.slice E)) (hs : (P.info? E).map (·.size) = some 1) (F : Fr n a kv ds) (H : Own w0 w bs rs K)
    (ho : o.op = .call { callee := .builtin .copy, args := #[d, s], argTypes := #[dT, sT] }) (hd : ev kv d = some (.slice (some ⟨b, k, none⟩) dl dc)) (hsv : ev kv s = some (.slice (some ad) sl sc)) (hm : cs.length = m) (hn : m = Nat.min sl dl)
    (hsrc : ∀ j v, cs[j]? = some v → w.cell? (ad.add j) = some v) (h1 : ones cs = true) (hi : bs[i]? = some (true, b, vs)) (hk : k + m ≤ vs.length) (hus : splice vs k cs = us) : Does P o a w (fun x w' => x = .int .i64 (m : Nat) ∧ Own w0 w' (bs.set i (true, b, us)) rs K) := by
  subst hm
  have ht := there_of (H.box i b vs hi).1 k cs.length hk
  have hr := run_copy_cells (P := P) w dT sT o.type E b k dl dc ad sl sc cs hu hs hn hsrc (fun j hj => (ht j hj).1) (fun j hj => (ht j hj).2) (fun u hu => List.all_eq_true.1 h1 u hu)
  refine (does_run (v := .int .i64 (cs.length : Nat)) (w' := w.setCells b k cs) ?_).mono ?_
  · unfold execOp
    simp only [ho, resolve, invoke, builtin, Sem.run_bind, Sem.run_pure, Result.andThen_ok, List.map_toArray, List.map_cons, List.map_nil, F.ev hd, F.ev hsv, hr]
    rfl
  · rintro y w'' ⟨rfl, rfl⟩
    have := H.store hi k cs hk
    rw [hus] at this
    exact ⟨rfl, this⟩
end
theorem take_box (l : List Nat) (x : BitVec 128) {w : World} {g c : Nat} {xs : List Value} (hl : l.length = 16) (hx : By.val (fun k => l.getD k 0) 16 = x) (h8 : ∀ i ∈ l, i < 256) (h : BoxAt w g xs) (hxs : xs = l.map fun i => .int .u8 (i : Nat)) :
    Calls Tryz.prog 144 #[.slice (some ⟨g, 0, none⟩) 16 c] w fun e w' => e = .returned (.tuple #[.agg #[.int .u64 ((Wd.hi x).toNat), .int .u64 ((Wd.lo x).toNat)], .int .i64 0]) ∧ Below w.heap.size w w' := by
  subst hx
  subst hxs
  refine wtake_ok (fun k => l.getD k 0) (fun k => ?_) _ w ⟨by decide, _, _, rfl, fun k hk => ⟨g, 0, rfl, ?_⟩⟩
  · by_cases hk : k < l.length
    · show l.getD k 0 < 256
      rw [List.getD_eq_getElem?_getD, List.getElem?_eq_getElem hk]
      exact h8 _ (List.getElem_mem hk)
    · show l.getD k 0 < 256
      rw [List.getD_eq_getElem?_getD, List.getElem?_eq_none (by omega)]; decide
  · rw [Nat.zero_add]
    refine (h k _ ?_).1
    rw [List.getElem?_map, List.getElem?_eq_getElem (by omega)]
    show some (Value.int .u8 ((l[k] : Nat) : Int)) = some (Value.int .u8 ((l.getD k 0 : Nat) : Int))
    rw [List.getD_eq_getElem?_getD, List.getElem?_eq_getElem (by omega)]; rfl
end Sx
end
instance fa_116_0 : Inhabited (Sx.FaC Tryz.prog 116 0) := ⟨⟨0, fun _ _ _ => by kernel_rfl⟩⟩
instance fa_208_0 : Inhabited (Sx.FaC Tryz.prog 208 0) := ⟨⟨0, fun _ _ _ => by kernel_rfl⟩⟩
instance fa_208_1 : Inhabited (Sx.FaC Tryz.prog 208 1) := ⟨⟨1, fun _ _ _ => by kernel_rfl⟩⟩
instance fa_222_0 : Inhabited (Sx.FaC Tryz.prog 222 0) := ⟨⟨0, fun _ _ _ => by kernel_rfl⟩⟩
instance fa_222_1 : Inhabited (Sx.FaC Tryz.prog 222 1) := ⟨⟨1, fun _ _ _ => by kernel_rfl⟩⟩
instance fa_217_0 : Inhabited (Sx.FaC Tryz.prog 217 0) := ⟨⟨0, fun _ _ _ => by kernel_rfl⟩⟩
instance fa_217_1 : Inhabited (Sx.FaC Tryz.prog 217 1) := ⟨⟨1, fun _ _ _ => by kernel_rfl⟩⟩
instance fa_160_0 : Inhabited (Sx.FaC Tryz.prog 160 0) := ⟨⟨0, fun _ _ _ => by kernel_rfl⟩⟩
instance fa_160_1 : Inhabited (Sx.FaC Tryz.prog 160 1) := ⟨⟨1, fun _ _ _ => by kernel_rfl⟩⟩
instance fa_160_2 : Inhabited (Sx.FaC Tryz.prog 160 2) := ⟨⟨2, fun _ _ _ => by kernel_rfl⟩⟩
abbrev L104 : List Value := [iI 0, .nilFunc, iI 0, .nilFunc, iI 0, .nilFunc, iI 0, .nilFunc]
theorem zero_209 : Sx.zeroIs Tryz.prog 209 L104 := ⟨.agg #[iI 0, .nilFunc, iI 0, .nilFunc, iI 0, .nilFunc, iI 0, .nilFunc], rfl, fun _ => by kernel_rfl⟩
theorem zero_208 : Sx.zeroIs Tryz.prog 208 [iI 0, .nilFunc] := ⟨.agg #[iI 0, .nilFunc], rfl, fun _ => by kernel_rfl⟩
theorem zero_217 : Sx.zeroIs Tryz.prog 217 [iI 0, nP] := ⟨.agg #[iI 0, nP], rfl, fun _ => by kernel_rfl⟩
end Go.Proofs.YteecadoakmdibaaGreat
