/- What the proof of TopJump leans on: part 13. -/
import Derived.Test.YteecadoakmdibaaGreatQ2
import Derived.Test.YteecadoakmdibaaGreatQ9
import Derived.Test.YteecadoakmdibaaGreatQ10
import Derived.Test.YteecadoakmdibaaGreatQ11
import Derived.Test.YteecadoakmdibaaGreatQ12
set_option maxRecDepth 100000
set_option maxHeartbeats 4000000
namespace Go.Proofs.YteecadoakmdibaaGreat
open Go Go.RowKit
section
open Sx
variable {w0 w : World} {bs : List Sx.Bx} {rs : List Sx.Rx} {K : Nat → Option Obj}
set_option maxRecDepth 100000 in
abbrev L184 : Value := .agg #[iU 0, iU 1, iU 0, iU 4611686018427387904]
abbrev L185 : List Value := [iU 0, iU 1, iU 0, iU 4611686018427387904]
theorem cx119 {g1 g2 : Nat}  (H : Sx.Own w0 w ((true, g1, (L153 g2)) :: (true, g2, (L180 g2)) :: bs) (rs) K) : Cq 84 #[pT g1 0] w fun x w' => x = L184 ∧ Sx.Own w0 w' ((true, g1, (L153 g2)) :: (true, g2, (L180 g2)) :: bs) (rs) K := by
 refine En Tryz.func84 Tryz.ntmps84 fun A F => ?_
 refine Sp fun _ kk => Zb F (d_alloc H rfl [iU 0, iU 0, iU 0, iU 0] zero_79) fun g3 A w F H => ?_
 refine Nl kk (Sx.seq fun K2 hK2 => ?_)
 have F := F.tq [(0, pT g1 0), (2, pT g3 0)] rfl
 refine Dn F [some (pT g1 0), some (pT g1 0), some (pT g1 0), some (pT g2 0), some (.agg #[iU 0, iU 1]), some (pT g1 0), some (pT g1 0), some (pT g1 1), some (L145), some (L184), none] (fun L A w => Sx.Own w0 w ((true, g3, (cond (L 10) L185 [iU 0, iU 0, iU 0, iU 0])) :: (true, g1, (L153 g2)) :: (true, g2, (L180 g2)) :: bs) (rs) K) (H.drew.padG [] [] rfl rfl) ?_ ?_
 ·refine ⟨?_, ?_, ?_, ?_, ?_, ?_, ?_, ?_, ?_, ?_, ?_, trivial⟩
  ·exact Sa
  ·exact Sa
  ·exact Sa
  ·exact SV (fun _ _ _ F H => Ld 1 one_220 F H)
  ·intro L A w up hun hd F H
   have f10 : L 10 = false := up 10 4 rfl hun
   rw [f10] at H
   have H : Sx.Own w0 w ((true, g3, [iU 0, iU 0, iU 0, iU 0]) :: (true, g1, (L153 g2)) :: (true, g2, (L180 g2)) :: bs) (rs) K := H
   have H := H.pickN 3 0 [2, 0, 1] []
   refine step_on rfl (Do if_124 F (cx118 H)) ?_
   rintro xv w' ⟨hx, H⟩
   have H := H.pickN 3 0 [1, 2, 0] []
   exact ⟨Cs hx, (by show Sx.Own _ _ _ _ _; rw [show Inv.add L 4 10 = false from f10]; exact H)⟩
  ·exact Sa
  ·exact Sa
  ·exact Sa
  ·exact SV (fun _ _ _ F H => Lr 1 [iU 0, iU 4611686018427387904] rw_26 F H)
  ·exact SV (fun _ _ _ F _ => d_build (qs := #[(0, .agg #[iU 0, iU 1]), (1, L145)]) (v := L184) F rfl rfl (by kernel_rfl))
  ·intro L A w up hun hd F H
   have f10 : L 10 = false := hun
   rw [f10] at H
   refine step_on rfl (d_store (i := 0) (xs := L185) (us := L185) sz_79 F H rfl rfl rfl rfl rfl rfl rfl (Nat.le_of_ble_eq_true rfl) rfl) ?_
   intro xv w' H
   exact ⟨Cn, H⟩
 ·intro L A w hL F H
  have t10 : L 10 = true := hL 10 rfl
  rw [t10] at H
  have H := H.pickN 3 0 [0, 1, 2] []
  have F := F.tq [(2, pT g3 0)] rfl
  refine hK2 _ _ (Wr (ret1 F Tryz.results84 (res_row (i := 0) (xs := L185) rw_79 F H rfl rfl rfl rfl) ?_))
  exact ⟨_, rfl, rfl, H.pickN 3 0 [1, 2] []⟩
set_option maxRecDepth 100000 in
theorem cx120 {g1 g2 : Nat}  (H : Sx.Own w0 w ((true, g1, (L140 g2)) :: (true, g2, L151) :: bs) (rs) K) : Cq 152 #[.agg #[iI 1, pT g1 0], iI 1] w fun x w' => x = iI 0 ∧ Sx.Own w0 w' ((true, g1, (L140 g2)) :: (true, g2, L151) :: bs) (rs) K := by
 refine En Tryz.func152 Tryz.ntmps152 fun A F => ?_
 refine Sp fun _ kk => Zb F (d_box F H rfl rfl [iI 1, pT g1 0] rfl) fun g3 A w F H => ?_
 refine Av F fun A F => ?_
 refine Nl kk (Sp fun _ kk => ?_)
 iterate 3 (refine Av F ?_; intro A F)
 refine Zv F (d_max (r := 1) F rfl rfl rfl (by decide)) fun A F => ?_
 refine Zv F (d_min (r := 1) F rfl rfl rfl (by decide)) fun A F => ?_
 refine Zn (iI 0) F fun A F => ?_
 refine Av F fun A F => ?_
 refine Nl kk (Wr (ret1 F Tryz.results152 (res_tmp F rfl) ?_))
 exact ⟨_, rfl, rfl, H.pickN 3 0 [1, 2] []⟩
set_option maxRecDepth 100000 in
theorem cx121 {g1 g2 : Nat}  (H : Sx.Own w0 w ((true, g1, (L153 g2)) :: (true, g2, (L180 g2)) :: bs) (rs) K) : Cq 152 #[.agg #[iI 0, pT g1 0], iI 1] w fun x w' => x = iI (-1) ∧ Sx.Own w0 w' ((true, g1, (L153 g2)) :: (true, g2, (L180 g2)) :: bs) (rs) K := by
 refine En Tryz.func152 Tryz.ntmps152 fun A F => ?_
 refine Sp fun _ kk => Zb F (d_box F H rfl rfl [iI 0, pT g1 0] rfl) fun g3 A w F H => ?_
 refine Av F fun A F => ?_
 refine Nl kk (Sp fun _ kk => ?_)
 iterate 3 (refine Av F ?_; intro A F)
 refine Zv F (d_max (r := 1) F rfl rfl rfl (by decide)) fun A F => ?_
 refine Zv F (d_min (r := 1) F rfl rfl rfl (by decide)) fun A F => ?_
 refine Zn (iI (-1)) F fun A F => ?_
 refine Av F fun A F => ?_
 refine Nl kk (Wr (ret1 F Tryz.results152 (res_tmp F rfl) ?_))
 exact ⟨_, rfl, rfl, H.pickN 3 0 [1, 2] []⟩
set_option maxRecDepth 100000 in
theorem cx122 {g1 c1 g2 g3 g4 g5 : Nat} (hbc1 : 2 ≤ c1) (H : Sx.Own w0 w ((true, g2, (L153 g3)) :: (true, g4, (L140 g5)) :: (true, g3, (L180 g3)) :: (true, g5, L151) :: bs) (⟨true, sL g1 0 2 c1, 217, 2, 2, [iI 0, pT g2 0, iI 1, pT g4 0]⟩ :: rs) K) : Cq 151 #[sL g1 0 2 c1, iI 1, .func (.func 152) #[] #[]] w fun x w' => x = .tuple #[iI 1, bT] ∧ Sx.Own w0 w' ((true, g2, (L153 g3)) :: (true, g4, (L140 g5)) :: (true, g3, (L180 g3)) :: (true, g5, L151) :: bs) (⟨true, sL g1 0 2 c1, 217, 2, 2, [iI 0, pT g2 0, iI 1, pT g4 0]⟩ :: rs) K := by
 refine En Tryz.func151 Tryz.ntmps151 fun A F => ?_
 refine Sp fun _ kk => ?_
 iterate 2 (refine Av F ?_; intro A F)
 refine Nl kk (Sp fun _ kk => Av F fun A F => ?_)
 refine Zv F (d_lenS el_213 F rfl rfl) fun A F => ?_
 refine Av F fun A F => ?_
 refine Nl kk (Sp fun _ kk => ?_)
 iterate 3 (refine Av F ?_; intro A F)
 refine Nl kk (Sx.seq fun K4 hK4 => wp_block (wp_loop_rounds 40 ?_))
 try dsimp only [Exit.then, Exit.inBlock, Exit.jump, Exit.noGoto]
 rw [rounds_succ]
 refine Sx.seq fun K5 hK5 => Sp fun _ kk => ?_
 iterate 3 (refine Av F ?_; intro A F)
 refine Nl kk (condT F rfl (wp_skip (hK5 _ _ (wp_block (Sp fun _ kk => ?_)))))
 iterate 2 (refine Av F ?_; intro A F)
 refine Zn (iI 2) F fun A F => ?_
 refine Zv F (d_conv (v := iU 2) F rfl rfl (by kernel_rfl)) fun A F => ?_
 refine Zn (iU 1) F fun A F => ?_
 refine Zv F (d_conv (v := iI 1) F rfl rfl (by kernel_rfl)) fun A F => ?_
 refine Av F fun A F => ?_
 refine Nl kk (Sp fun _ kk => ?_)
 iterate 3 (refine Av F ?_; intro A F)
 refine Zv F (d_ixZ (k := 1) (g := g1) (off := 0) (z := 2) el_213 F rfl rfl rfl rfl rfl (by omega)) fun A F => ?_
 refine Zv F (Lr 0 [iI 1, pT g4 0] rw_217 F (H.rowBox (i := 0) rfl)) fun A F => ?_
 refine Av F fun A F => ?_
 have H := H.pickN 4 1 [1, 3, 0, 2] [0]
 refine Zx F (d_callCO (fv := []) (vs := [.agg #[iI 1, pT g4 0], iI 1]) (cv := []) if_152 F rfl rfl rfl (cx120 H)) ?_
 rintro _ w ⟨rfl, H⟩ A F
 refine Av F fun A F => ?_
 refine Nl kk (condF F rfl (Sx.plain ?_))
 iterate 2 (refine Av F ?_; intro A F)
 refine Sx.nil ?_
 try dsimp only [Exit.then, Exit.inBlock, Exit.jump, Exit.noGoto]
 rw [rounds_succ]
 refine Sx.seq fun K9 hK9 => Sp fun _ kk => ?_
 iterate 3 (refine Av F ?_; intro A F)
 refine Nl kk (condT F rfl (wp_skip (hK9 _ _ (wp_block (Sp fun _ kk => ?_)))))
 iterate 2 (refine Av F ?_; intro A F)
 refine Zn (iI 1) F fun A F => ?_
 refine Zv F (d_conv (v := iU 1) F rfl rfl (by kernel_rfl)) fun A F => ?_
 refine Zn (iU 0) F fun A F => ?_
 refine Zv F (d_conv (v := iI 0) F rfl rfl (by kernel_rfl)) fun A F => ?_
 refine Av F fun A F => ?_
 refine Nl kk (Sp fun _ kk => ?_)
 iterate 3 (refine Av F ?_; intro A F)
 refine Zv F (d_ixZ (k := 0) (g := g1) (off := 0) (z := 2) el_213 F rfl rfl rfl rfl rfl (by omega)) fun A F => ?_
 refine Zv F (Lr 0 [iI 0, pT g2 0] rw_217 F (H.rowBox (i := 0) rfl)) fun A F => ?_
 refine Av F fun A F => ?_
 have H := H.pickN 4 1 [2, 3, 0, 1] [0]
 refine Zx F (d_callCO (fv := []) (vs := [.agg #[iI 0, pT g2 0], iI 1]) (cv := []) if_152 F rfl rfl rfl (cx121 H)) ?_
 rintro _ w ⟨rfl, H⟩ A F
 refine Av F fun A F => ?_
 refine Nl kk (condT F rfl (Sx.plain ?_))
 refine Av F fun A F => ?_
 refine Zn (iI 1) F fun A F => ?_
 refine Av F fun A F => ?_
 refine Sx.nil ?_
 try dsimp only [Exit.then, Exit.inBlock, Exit.jump, Exit.noGoto]
 rw [rounds_succ]
 refine Sx.seq fun K13 hK13 => Sp fun _ kk => ?_
 iterate 3 (refine Av F ?_; intro A F)
 refine Nl kk (condF F rfl (wp_exit ?_))
 try dsimp only [Exit.then, Exit.jump, Exit.noGoto]
 refine exit_here (hK4 _ _ (Sp fun _ kk => ?_))
 iterate 8 (refine Av F ?_; intro A F)
 refine Zv F (d_ixZ (k := 1) (g := g1) (off := 0) (z := 2) el_213 F rfl rfl rfl rfl rfl (by omega)) fun A F => ?_
 refine Zv F (Lr 0 [iI 1, pT g4 0] rw_217 F (H.rowBox (i := 0) rfl)) fun A F => ?_
 refine Av F fun A F => ?_
 have H := H.pickN 4 1 [2, 3, 0, 1] [0]
 refine Zx F (d_callCO (fv := []) (vs := [.agg #[iI 1, pT g4 0], iI 1]) (cv := []) if_152 F rfl rfl rfl (cx120 H)) ?_
 rintro _ w ⟨rfl, H⟩ A F
 iterate 4 (refine Av F ?_; intro A F)
 refine Nl kk (Wr (ret2 F Tryz.results151 (res_tmp F rfl) (res_tmp F rfl) ?_))
 exact ⟨_, rfl, rfl, H.pickN 4 1 [2, 0, 3, 1] [0]⟩
set_option maxRecDepth 100000 in
theorem cx123 {g1 g2 c1 g3 g4 g5 g6 : Nat} (hbc1 : 2 ≤ c1) (H : Sx.Own w0 w ((true, g1, [sL g2 0 2 c1, iI 2]) :: (true, g3, (L153 g4)) :: (true, g5, (L140 g6)) :: (true, g4, (L180 g4)) :: (true, g6, L151) :: bs) (⟨true, sL g2 0 2 c1, 217, 2, 2, [iI 0, pT g3 0, iI 1, pT g5 0]⟩ :: rs) K) : Cq 123 #[pT g1 0, iI 1] w fun x w' => x = .tuple #[iI 1, bT] ∧ Sx.Own w0 w' ((true, g1, [sL g2 0 2 c1, iI 2]) :: (true, g3, (L153 g4)) :: (true, g5, (L140 g6)) :: (true, g4, (L180 g4)) :: (true, g6, L151) :: bs) (⟨true, sL g2 0 2 c1, 217, 2, 2, [iI 0, pT g3 0, iI 1, pT g5 0]⟩ :: rs) K := by
 refine En Tryz.func123 Tryz.ntmps123 fun A F => ?_
 refine Sp fun _ kk => ?_
 iterate 2 (refine Av F ?_; intro A F)
 refine Nl kk (Sp fun _ kk => ?_)
 iterate 5 (refine Av F ?_; intro A F)
 have H := H.pickN 5 1 [1, 2, 3, 4, 0] [0]
 refine Zx F (Do if_151 F (cx122 (by omega) H)) ?_
 rintro _ w ⟨rfl, H⟩ A F
 iterate 4 (refine Av F ?_; intro A F)
 refine Nl kk (Wr (ret2 F Tryz.results123 (res_tmp F rfl) (res_tmp F rfl) ?_))
 exact ⟨_, rfl, rfl, H.pickN 5 1 [4, 0, 1, 2, 3] [0]⟩
set_option maxRecDepth 100000 in
theorem cx124 {g1 g2 c1 g3 g4 g5 g6 : Nat} (hbc1 : 2 ≤ c1) (H : Sx.Own w0 w ((true, g1, [sL g2 0 2 c1, iI 2]) :: (true, g3, (L153 g4)) :: (true, g5, (L140 g6)) :: (true, g4, (L180 g4)) :: (true, g6, L151) :: bs) (⟨true, sL g2 0 2 c1, 217, 2, 2, [iI 0, pT g3 0, iI 1, pT g5 0]⟩ :: rs) K) : Cq 83 #[pT g1 0, iI 1] w fun x w' => x = .tuple #[pT g5 0, bT] ∧ Sx.Own w0 w' ((true, g1, [sL g2 0 2 c1, iI 2]) :: (true, g3, (L153 g4)) :: (true, g5, (L140 g6)) :: (true, g4, (L180 g4)) :: (true, g6, L151) :: bs) (⟨true, sL g2 0 2 c1, 217, 2, 2, [iI 0, pT g3 0, iI 1, pT g5 0]⟩ :: rs) K := by
 refine En Tryz.func83 Tryz.ntmps83 fun A F => ?_
 refine Sp fun _ kk => ?_
 iterate 2 (refine Av F ?_; intro A F)
 refine Nl kk (Sp fun _ kk => ?_)
 iterate 2 (refine Av F ?_; intro A F)
 refine Zx F (Do if_123 F (cx123 (by omega) H)) ?_
 rintro _ w ⟨rfl, H⟩ A F
 iterate 5 (refine Av F ?_; intro A F)
 refine Nl kk (Sx.seq fun K3 hK3 => Sp fun _ kk => Av F fun A F => ?_)
 refine Zv F (d_un (v := bF) F rfl rfl rfl) fun A F => ?_
 refine Nl kk (condF F rfl (wp_skip (hK3 _ _ (Sp fun _ kk => ?_))))
 iterate 5 (refine Av F ?_; intro A F)
 refine Zv F (d_ixZ (k := 1) (g := g2) (off := 0) (z := 2) el_213 F rfl rfl rfl rfl rfl (by omega)) fun A F => ?_
 refine Av F fun A F => ?_
 refine Zv F (Ld 0 one_161 F (H.rowBox (i := 0) rfl)) fun A F => ?_
 iterate 2 (refine Av F ?_; intro A F)
 refine Nl kk (Wr (ret2 F Tryz.results83 (res_tmp F rfl) (res_tmp F rfl) ?_))
 exact ⟨_, rfl, rfl, H.pickN 5 1 [0, 1, 2, 3, 4] [0]⟩
set_option maxRecDepth 100000 in
theorem cx125 {g1 : Nat}  (H : Sx.Own w0 w ((true, g1, L151) :: bs) (rs) K) : Cq 124 #[pT g1 0] w fun x w' => x = L145 ∧ Sx.Own w0 w' ((true, g1, L151) :: bs) (rs) K := by
 refine En Tryz.func124 Tryz.ntmps124 fun A F => ?_
 refine Sp fun _ kk => Zb F (d_alloc H rfl [iU 0, iU 0] zero_26) fun g2 A w F H => ?_
 refine Nl kk (Sp fun _ kk => ?_)
 iterate 4 (refine Av F ?_; intro A F)
 refine Zs 0 [iU 0, iU 4611686018427387904] sz_26 F H fun A w F H => ?_
 refine Nl kk (Wr (ret1 F Tryz.results124 (res_row (i := 0) (xs := [iU 0, iU 4611686018427387904]) rw_26 F H rfl rfl rfl rfl) ?_))
 exact ⟨_, rfl, rfl, H.pickN 2 0 [1] []⟩
set_option maxRecDepth 100000 in
theorem cx126 {g1 g2 : Nat}  (H : Sx.Own w0 w ((true, g1, (L140 g2)) :: (true, g2, L151) :: bs) (rs) K) : Cq 84 #[pT g1 0] w fun x w' => x = L147 ∧ Sx.Own w0 w' ((true, g1, (L140 g2)) :: (true, g2, L151) :: bs) (rs) K := by
 refine En Tryz.func84 Tryz.ntmps84 fun A F => ?_
 refine Sp fun _ kk => Zb F (d_alloc H rfl [iU 0, iU 0, iU 0, iU 0] zero_79) fun g3 A w F H => ?_
 refine Nl kk (Sx.seq fun K2 hK2 => ?_)
 have F := F.tq [(0, pT g1 0), (2, pT g3 0)] rfl
 refine Dn F [some (pT g1 0), some (pT g1 0), some (pT g1 0), some (pT g2 0), some (L145), some (pT g1 0), some (pT g1 0), some (pT g1 1), some (L126), some (L147), none] (fun L A w => Sx.Own w0 w ((true, g3, (cond (L 10) L148 [iU 0, iU 0, iU 0, iU 0])) :: (true, g1, (L140 g2)) :: (true, g2, L151) :: bs) (rs) K) (H.drew.padG [] [] rfl rfl) ?_ ?_
 ·refine ⟨?_, ?_, ?_, ?_, ?_, ?_, ?_, ?_, ?_, ?_, ?_, trivial⟩
  ·exact Sa
  ·exact Sa
  ·exact Sa
  ·exact SV (fun _ _ _ F H => Ld 1 one_220 F H)
  ·intro L A w up hun hd F H
   have f10 : L 10 = false := up 10 4 rfl hun
   rw [f10] at H
   have H : Sx.Own w0 w ((true, g3, [iU 0, iU 0, iU 0, iU 0]) :: (true, g1, (L140 g2)) :: (true, g2, L151) :: bs) (rs) K := H
   have H := H.pickN 3 0 [2, 0, 1] []
   refine step_on rfl (Do if_124 F (cx125 H)) ?_
   rintro xv w' ⟨hx, H⟩
   have H := H.pickN 3 0 [1, 2, 0] []
   exact ⟨Cs hx, (by show Sx.Own _ _ _ _ _; rw [show Inv.add L 4 10 = false from f10]; exact H)⟩
  ·exact Sa
  ·exact Sa
  ·exact Sa
  ·exact SV (fun _ _ _ F H => Lr 1 [iU 0, iU 9223372036854775808] rw_26 F H)
  ·exact SV (fun _ _ _ F _ => d_build (qs := #[(0, L145), (1, L126)]) (v := L147) F rfl rfl (by kernel_rfl))
  ·intro L A w up hun hd F H
   have f10 : L 10 = false := hun
   rw [f10] at H
   refine step_on rfl (d_store (i := 0) (xs := L148) (us := L148) sz_79 F H rfl rfl rfl rfl rfl rfl rfl (Nat.le_of_ble_eq_true rfl) rfl) ?_
   intro xv w' H
   exact ⟨Cn, H⟩
 ·intro L A w hL F H
  have t10 : L 10 = true := hL 10 rfl
  rw [t10] at H
  have H := H.pickN 3 0 [0, 1, 2] []
  have F := F.tq [(2, pT g3 0)] rfl
  refine hK2 _ _ (Wr (ret1 F Tryz.results84 (res_row (i := 0) (xs := L148) rw_79 F H rfl rfl rfl rfl) ?_))
  exact ⟨_, rfl, rfl, H.pickN 3 0 [1, 2] []⟩
set_option maxRecDepth 100000 in
abbrev L186 : List Value := [iU 0, iU 1, iU 0, iU 4611686018427387904, iU 0, iU 4611686018427387904, iU 0, iU 9223372036854775808]
theorem cx127 {g1 g2 g3 c1 g4 g5 g6 g7 : Nat} (hbc1 : 2 ≤ c1) (H : Sx.Own w0 w ((true, g1, [pT g2 0, iI 1, iU 0]) :: (true, g2, [sL g3 0 2 c1, iI 2]) :: (true, g4, (L153 g5)) :: (true, g6, (L140 g7)) :: (true, g5, (L180 g5)) :: (true, g7, L151) :: bs) (⟨true, sL g3 0 2 c1, 217, 2, 2, [iI 0, pT g4 0, iI 1, pT g6 0]⟩ :: rs) K) : Cq 56 #[pT g1 0] w fun x w' => ∃ g12 c4 : Nat, 2 ≤ c4 ∧ x = sL g12 0 2 c4 ∧ Sx.Own w0 w' ((true, g1, [pT g2 0, iI 1, iU 0]) :: (true, g2, [sL g3 0 2 c1, iI 2]) :: (true, g4, (L153 g5)) :: (true, g6, (L140 g7)) :: (true, g5, (L180 g5)) :: (true, g7, L151) :: bs) (⟨true, sL g3 0 2 c1, 217, 2, 2, [iI 0, pT g4 0, iI 1, pT g6 0]⟩ :: ⟨true, sL g12 0 2 c4, 79, 4, 2, L186⟩ :: rs) K := by
 refine En Tryz.func56 Tryz.ntmps56 fun A F => ?_
 refine Sp fun _ kk => Av F fun A F => ?_
 refine Nl kk (Sp fun _ kk => Av F fun A F => ?_)
 refine Nl kk (Sx.seq fun K3 hK3 => Sp fun _ kk => ?_)
 iterate 4 (refine Av F ?_; intro A F)
 have H := H.pickN 6 1 [1, 2, 3, 4, 5, 0] [0]
 refine Zx F (Do if_82 F (cx113 (by omega) H)) ?_
 rintro _ w ⟨g8, c2, hbc2, rfl, H⟩ A F
 refine Zv F (d_lenS el_54 F rfl rfl) fun A F => ?_
 refine Av F fun A F => ?_
 refine Nl kk (wp_block (wp_loop_rounds 40 ?_))
 try dsimp only [Exit.then, Exit.inBlock, Exit.jump, Exit.noGoto]
 rw [rounds_succ]
 refine Sp fun _ kk => Av F fun A F => ?_
 refine Nl kk (Sx.seq fun K6 hK6 => condT F rfl (wp_skip (hK6 _ _ (Sx.seq fun K7 hK7 => wp_block (Sp fun _ kk => Zv F (d_ix1 (k := 0) (g := g8) (off := 0) el_54 F rfl rfl rfl rfl rfl (by omega)) fun A F => ?_)))))
 refine Zv F (Ld 0 one_3 F (H.rowBox (i := 1) rfl)) fun A F => ?_
 refine Av F fun A F => ?_
 refine Nl kk (Sp fun _ kk => ?_)
 iterate 5 (refine Av F ?_; intro A F)
 refine Zx F (Do if_83 F (cx117 (by omega) H)) ?_
 rintro _ w ⟨rfl, H⟩ A F
 iterate 5 (refine Av F ?_; intro A F)
 refine Nl kk (Sx.plain ?_)
 iterate 2 (refine Av F ?_; intro A F)
 have H := H.pickN 6 2 [1, 3, 0, 2, 4, 5] [0, 1]
 refine Zx F (Do if_84 F (cx119 H)) ?_
 rintro _ w ⟨rfl, H⟩ A F
 refine Zg (mk := fun g => sL g 0 1 1) F (d_lit (qs := #[(0, L184)]) (cs := #[iU 0, iU 1, iU 0, iU 4611686018427387904]) (E := 79) F H rfl rfl (fun _ => by kernel_rfl)) fun g9 A w F H => ?_
 have H := Sx.Own.nilR H 79 4
 refine Zr (mk := fun v => v) F (d_append (i := 0) (j := 0) el_74 F H rfl rfl rfl rfl rfl rfl rfl rfl (by decide) (by decide)) fun v1 A w F H => ?_
 obtain ⟨g10, c3, rfl, hbc3, hdc3⟩ := H.open (i := 0) rfl (by decide)
 refine Av F fun A F => ?_
 refine Sx.nil (hK7 _ _ (Sx.plain ?_))
 refine Zn (iI 1) F fun A F => ?_
 refine Av F fun A F => ?_
 refine Sx.nil ?_
 try dsimp only [Exit.then, Exit.inBlock, Exit.jump, Exit.noGoto]
 rw [rounds_succ]
 refine Sp fun _ kk => Av F fun A F => ?_
 refine Nl kk (Sx.seq fun K11 hK11 => condT F rfl (wp_skip (hK11 _ _ (Sx.seq fun K12 hK12 => wp_block (Sp fun _ kk => Zv F (d_ix1 (k := 1) (g := g8) (off := 0) el_54 F rfl rfl rfl rfl rfl (by omega)) fun A F => ?_)))))
 refine Zv F (Ld 0 one_3 F (H.rowBox (i := 2) rfl)) fun A F => ?_
 refine Av F fun A F => ?_
 refine Nl kk (Sp fun _ kk => ?_)
 iterate 5 (refine Av F ?_; intro A F)
 have H := H.pickN 7 3 [3, 1, 4, 2, 5, 0, 6] [1, 0, 2]
 refine Zx F (Do if_83 F (cx124 (by omega) H)) ?_
 rintro _ w ⟨rfl, H⟩ A F
 iterate 5 (refine Av F ?_; intro A F)
 refine Nl kk (Sx.plain ?_)
 iterate 2 (refine Av F ?_; intro A F)
 have H := H.pickN 7 3 [2, 4, 0, 1, 3, 5, 6] [0, 1, 2]
 refine Zx F (Do if_84 F (cx126 H)) ?_
 rintro _ w ⟨rfl, H⟩ A F
 refine Zg (mk := fun g => sL g 0 1 1) F (d_lit (qs := #[(0, L147)]) (cs := #[iU 0, iU 4611686018427387904, iU 0, iU 9223372036854775808]) (E := 79) F H rfl rfl (fun _ => by kernel_rfl)) fun g11 A w F H => ?_
 refine Zr (mk := fun v => v) F (d_append (i := 1) (j := 0) el_74 F H rfl rfl rfl rfl rfl rfl rfl rfl (by decide) (by decide)) fun v2 A w F H => ?_
 obtain ⟨g12, c4, rfl, hbc4, hdc4⟩ := H.open (i := 1) rfl (by decide)
 refine Av F fun A F => ?_
 refine Sx.nil (hK12 _ _ (Sx.plain ?_))
 refine Zn (iI 2) F fun A F => ?_
 refine Av F fun A F => ?_
 refine Sx.nil ?_
 try dsimp only [Exit.then, Exit.inBlock, Exit.jump, Exit.noGoto]
 rw [rounds_succ]
 refine Sp fun _ kk => Av F fun A F => ?_
 refine Nl kk (Sx.seq fun K16 hK16 => condF F rfl (wp_exit ?_))
 try dsimp only [Exit.then, Exit.jump, Exit.noGoto]
 refine exit_here (hK3 _ _ (Sp fun _ kk => ?_))
 iterate 2 (refine Av F ?_; intro A F)
 refine Nl kk (Wr (ret1 F Tryz.results56 (res_tmp F rfl) ?_))
 exact ⟨_, rfl, g12, c4, (by omega), rfl, H.pickN 8 3 [7, 3, 4, 1, 5, 2] [0, 1]⟩
set_option maxRecDepth 100000 in
theorem cx128 {g1 g2 g3 g4 c1 g5 g6 g7 g8 : Nat} (hbc1 : 2 ≤ c1) (H : Sx.Own w0 w ((true, g1, [pT g2 0]) :: (true, g2, [pT g3 0, iI 1, iU 0]) :: (true, g3, [sL g4 0 2 c1, iI 2]) :: (true, g5, (L153 g6)) :: (true, g7, (L140 g8)) :: (true, g6, (L180 g6)) :: (true, g8, L151) :: bs) (⟨true, sL g4 0 2 c1, 217, 2, 2, [iI 0, pT g5 0, iI 1, pT g7 0]⟩ :: rs) K) : Cq 21 #[pT g1 0] w fun x w' => ∃ g9 c2 : Nat, 2 ≤ c2 ∧ x = sL g9 0 2 c2 ∧ Sx.Own w0 w' ((true, g1, [pT g2 0]) :: (true, g2, [pT g3 0, iI 1, iU 0]) :: (true, g3, [sL g4 0 2 c1, iI 2]) :: (true, g5, (L153 g6)) :: (true, g7, (L140 g8)) :: (true, g6, (L180 g6)) :: (true, g8, L151) :: bs) (⟨true, sL g4 0 2 c1, 217, 2, 2, [iI 0, pT g5 0, iI 1, pT g7 0]⟩ :: ⟨true, sL g9 0 2 c2, 79, 4, 2, L186⟩ :: rs) K := by
 refine En Tryz.func21 Tryz.ntmps21 fun A F => ?_
 refine Sp fun _ kk => Av F fun A F => ?_
 refine Nl kk (Sx.seq fun K2 hK2 => Sp fun _ kk => Av F fun A F => ?_)
 refine Zx F (Do if_53 F (cx112 (by omega) H)) ?_
 rintro _ w ⟨rfl, H⟩ A F
 refine Nl kk (condF F rfl (wp_skip (hK2 _ _ (Sp fun _ kk => ?_))))
 iterate 4 (refine Av F ?_; intro A F)
 have H := H.pickN 7 1 [1, 2, 3, 4, 5, 6, 0] [0]
 refine Zx F (Do if_56 F (cx127 (by omega) H)) ?_
 rintro _ w ⟨g9, c2, hbc2, rfl, H⟩ A F
 refine Av F fun A F => ?_
 refine Nl kk (Wr (ret1 F Tryz.results21 (res_tmp F rfl) ?_))
 exact ⟨_, rfl, g9, c2, (by omega), rfl, H.pickN 7 2 [6, 0, 1, 2, 3, 4, 5] [0, 1]⟩
set_option maxRecDepth 100000 in
theorem cx129   (H : Sx.Own w0 w (bs) (rs) K) : Cq 5 #[] w fun x w' => x = bT ∧ Sx.Own w0 w' (bs) (rs) K := by
 refine En Tryz.func5 Tryz.ntmps5 fun A F => ?_
 refine Sp fun _ kk => Av F fun A F => ?_
 refine Nl kk (Sp fun _ kk => Zv F (d_build (qs := #[(0, iI 0), (3, iI 1)]) (v := L105) F rfl rfl (by kernel_rfl)) fun A F => ?_)
 refine Zv F (d_build (qs := #[(0, iI 1)]) (v := L115) F rfl rfl (by kernel_rfl)) fun A F => ?_
 refine Zv F (d_build (qs := #[(0, iI 3)]) (v := L117) F rfl rfl (by kernel_rfl)) fun A F => ?_
 refine Zr (mk := fun v => v) F (d_litR (qs := #[(0, L105), (1, L115), (2, L117)]) (cs := #[iI 0, iI 0, iI 0, iI 1, iU 0, iU 0, iU 0, iU 0, nS, iI 1, iI 0, iI 0, iI 0, iU 0, iU 0, iU 0, iU 0, nS, iI 3, iI 0, iI 0, iI 0, iU 0, iU 0, iU 0, iU 0, nS]) (E := 71) (z := 9) F H rfl rfl (fun _ => by kernel_rfl) rfl (by decide)) fun v1 A w F H => ?_
 obtain ⟨g1, c1, rfl, hbc1, hdc1⟩ := H.open (i := 0) rfl (by decide)
 refine Zx F (Do if_23 F (cx20 (by omega) H)) ?_
 rintro _ w ⟨g2, c2, hbc2, rfl, H⟩ A F
 iterate 5 (refine Av F ?_; intro A F)
 refine Nl kk (Sp fun _ kk => Av F fun A F => ?_)
 have H := H.pickN 0 2 [] [1, 0]
 refine Zx F (Do if_24 F (cx46 (by omega) H)) ?_
 rintro _ w ⟨g3, c3, hbc3, rfl, H⟩ A F
 iterate 5 (refine Av F ?_; intro A F)
 refine Nl kk (Sp fun _ kk => Zx F (Do if_18 F (cx47 H)) ?_)
 rintro _ w ⟨g4, rfl, H⟩ A F
 refine Av F fun A F => ?_
 refine Nl kk (Sx.seq fun K5 hK5 => Sp fun _ kk => ?_)
 iterate 4 (refine Av F ?_; intro A F)
 refine Zv F (d_un (v := bF) F rfl rfl rfl) fun A F => ?_
 iterate 3 (refine Av F ?_; intro A F)
 refine Zn bF F fun A F => ?_
 refine Av F fun A F => ?_
 refine Nl kk (condF F rfl (wp_skip (hK5 _ _ (Sp fun _ kk => ?_))))
 iterate 2 (refine Av F ?_; intro A F)
 refine Zx F (Do if_25 F (cx111 (by omega) H)) ?_
 rintro _ w ⟨g5, c4, g6, g7, g8, c5, g9, g10, g11, g12, hbc4, hbc5, rfl, H⟩ A F
 refine Av F fun A F => ?_
 refine Nl kk (Sp fun _ kk => Av F fun A F => ?_)
 refine Zv F (d_lenS el_86 F rfl rfl) fun A F => ?_
 iterate 3 (refine Av F ?_; intro A F)
 refine Zv F (d_ixZ (k := 1) (g := g5) (off := 0) (z := 5) el_86 F rfl rfl rfl rfl rfl (by omega)) fun A F => ?_
 refine Av F fun A F => ?_
 refine Zv F (Ld 0 one_3 F (H.rowBox (i := 1) rfl)) fun A F => ?_
 iterate 4 (refine Av F ?_; intro A F)
 refine Zv F (d_ixZ (k := 2) (g := g5) (off := 0) (z := 5) el_86 F rfl rfl rfl rfl rfl (by omega)) fun A F => ?_
 refine Av F fun A F => ?_
 refine Zv F (Ld 0 one_22 F (H.rowBox (i := 1) rfl)) fun A F => ?_
 iterate 4 (refine Av F ?_; intro A F)
 have H := H.pickN 7 4 [0, 1, 2, 3, 4, 5, 6] [2, 0, 1, 3]
 refine Zx F (Do if_21 F (cx128 (by omega) H)) ?_
 rintro _ w ⟨g13, c6, hbc6, rfl, H⟩ A F
 refine Zv F (d_lenS el_74 F rfl rfl) fun A F => ?_
 iterate 3 (refine Av F ?_; intro A F)
 refine Nl kk (Wr (ret1 F Tryz.results5 (res_tmp F rfl) ?_))
 exact ⟨_, rfl, rfl, H.pickN 7 5 [] []⟩
end
theorem awake_top : AwakeTop := fun w => (cx129 (K := fun _ => none) (Sx.Own.start w)).mono fun e w' ⟨x, he, hx, H⟩ => ⟨by rw [he, hx], H.below⟩
theorem top_jump (u : Gs) (n : BitVec 128) (w : World) : Calls Tryz.prog 3 #[u.val, .agg #[.int .u64 (Wd.hi n).toNat, .int .u64 (Wd.lo n).toNat]] w fun e w' => e = .returned (.bool true) ∧ Below w.heap.size w w' := by
  obtain ⟨gk, gm, gx, ps, pi, hc, k0, k1, hb⟩ := u
  by_cases h1 : gk = 1
  · subst h1
    cases he : Sx.eqbS (⟨1, gm, Xo.zero, 0#128, 0#128, 0#128, 0#32, 0#32, false⟩ : Gs) (⟨1, gm, gx, ps, pi, hc, k0, k1, hb⟩ : Gs) with
    | false => exact tj_bad 1 gm gx ps pi hc k0 k1 hb 3 (by decide) (fun w => gcheck1_not gm gx ps pi hc k0 k1 hb he w) n awake_top w
    | true =>
    have h := Sx.eqbS_iff.1 he
    simp only [Gs.mk.injEq] at h
    obtain ⟨_, _, rfl, rfl, rfl, rfl, rfl, rfl, rfl⟩ := h
    exact tj1_ok gm n awake_top w
  by_cases h2 : gk = 2
  · subst h2
    cases hr : Xj.right gx with
    | false => exact tj_bad 2 gm gx ps pi hc k0 k1 hb 3 (by decide) (fun w => gcheck2_no gm gx ps pi hc k0 k1 hb hr w) n awake_top w
    | true =>
    cases he : Sx.eqbS (⟨2, 0#64, gx, 0#128, 0#128, 0#128, 0#32, 0#32, false⟩ : Gs) (⟨2, gm, gx, ps, pi, hc, k0, k1, hb⟩ : Gs) with
    | false => exact tj_bad 2 gm gx ps pi hc k0 k1 hb 3 (by decide) (fun w => gcheck2_not gm gx ps pi hc k0 k1 hb hr he w) n awake_top w
    | true =>
    have h := Sx.eqbS_iff.1 he
    simp only [Gs.mk.injEq] at h
    obtain ⟨_, rfl, _, rfl, rfl, rfl, rfl, rfl, rfl⟩ := h
    exact tj2_ok gx hr n awake_top w
  by_cases h3 : gk = 3
  · subst h3
    cases hr : Af.odd pi with
    | false => exact tj_bad 3 gm gx ps pi hc k0 k1 hb 3 (by decide) (fun w => gcheck3_no gm gx ps pi hc k0 k1 hb hr w) n awake_top w
    | true =>
    cases he : Sx.eqbS (⟨3, 0#64, Xo.zero, ps, pi, 0#128, 0#32, 0#32, false⟩ : Gs) (⟨3, gm, gx, ps, pi, hc, k0, k1, hb⟩ : Gs) with
    | false => exact tj_bad 3 gm gx ps pi hc k0 k1 hb 3 (by decide) (fun w => gcheck3_not gm gx ps pi hc k0 k1 hb hr he w) n awake_top w
    | true =>
    have h := Sx.eqbS_iff.1 he
    simp only [Gs.mk.injEq] at h
    obtain ⟨_, rfl, rfl, _, _, rfl, rfl, rfl, rfl⟩ := h
    exact tj3_ok ps pi hr n awake_top w
  by_cases h4 : gk = 4
  · subst h4
    cases he : Sx.eqbS (⟨4, 0#64, Xo.zero, 0#128, 0#128, hc, k0, k1, hb⟩ : Gs) (⟨4, gm, gx, ps, pi, hc, k0, k1, hb⟩ : Gs) with
    | false => exact tj_bad 4 gm gx ps pi hc k0 k1 hb 3 (by decide) (fun w => gcheck4_not gm gx ps pi hc k0 k1 hb he w) n awake_top w
    | true =>
    have h := Sx.eqbS_iff.1 he
    simp only [Gs.mk.injEq] at h
    obtain ⟨_, rfl, rfl, rfl, rfl, _, _, _, _⟩ := h
    exact tj4_ok hc k0 k1 hb n awake_top w
  exact tj_bad gk gm gx ps pi hc k0 k1 hb 2 (by decide) (fun w => gcheckN gk gm gx ps pi hc k0 k1 hb ⟨h1, h2, h3, h4⟩ w) n awake_top w
end Go.Proofs.YteecadoakmdibaaGreat
