/- What the proof of TopBounded leans on: part 12. -/
import Derived.Test.YteecadoakmdibaaGreatQ2
import Derived.Test.YteecadoakmdibaaGreatQ5
import Derived.Test.YteecadoakmdibaaGreatQ7
import Derived.Test.YteecadoakmdibaaGreatQ8
import Derived.Test.YteecadoakmdibaaGreatQ9
import Derived.Test.YteecadoakmdibaaGreatQ10
import Derived.Test.YteecadoakmdibaaGreatQ11
set_option maxRecDepth 100000
set_option maxHeartbeats 4000000
namespace Go.Proofs.YteecadoakmdibaaGreat
open Go Go.RowKit
section
open Sx
variable {w0 w : World} {bs : List Sx.Bx} {rs : List Sx.Rx} {K : Nat → Option Obj} {g1 g2 g3 g4 g5 g6 g7 g8 g9 g10 g11 g12 g13 g14 g15 g16 g17 g18 g19 g20 g21 g22 g23 g24 c1 c2 c3 c4 c5 c6 c7 c8 c9 : Nat} {v1 v2 v3 v4 v5 v6 v7 v8 v9 : Value} {n b : BitVec 64} {at' : BitVec 128} {kd lf : BitVec 8}
abbrev L177 : Value := .agg #[iU 0, iU 4611686018427387904]
abbrev L178 : Value := .agg #[iU 0, iU 0, iU 0, iU 4611686018427387904]
abbrev L179 : Value := .agg #[iU 0, iU 4611686018427387904, iU 0, iU 9223372036854775808]
abbrev L180 : List Value := [iU 0, iU 4611686018427387904, iU 0, iU 9223372036854775808]
abbrev L181 : List Value := [iU 0, iU 0, iU 0, iU 4611686018427387904]
theorem cx75 (H : Sx.Own w0 w bs rs K) : Cr 137 #[L166, L177] w0 w (.tuple #[L178, L179]) bs rs K := by
 refine En Tryz.func137 Tryz.ntmps137 fun A F => ?_
 refine Sp fun _ kk => Zb F (d_box F H rfl rfl L167 rfl) fun g1 A w F H => ?_
 refine Zb F (d_box F H rfl rfl [iU 0, iU 4611686018427387904] rfl) fun g2 A w F H => ?_
 refine Zb F (d_alloc H rfl [iU 0, iU 0, iU 0, iU 0] zero_79) fun g3 A w F H => ?_
 refine Zb F (d_alloc H rfl [iU 0, iU 0, iU 0, iU 0] zero_79) fun g4 A w F H => ?_
 refine Nl kk (Sx.seq fun K2 hK2 => ?_)
 have F := F.tq [(2, pT g1 0), (3, pT g2 0), (4, pT g3 0), (5, pT g4 0)] rfl
 refine Dn F [some (pT g1 0), some (.agg #[iU 0, iU 0]), some (L177), some (L178), some (L177), some (pT g1 2), some (L165), some (L179), none, none] (fun L A w => Sx.Own w0 w (Bt g4 (cond (L 9) L180 [iU 0, iU 0, iU 0, iU 0]) :: Bt g3 (cond (L 8) L181 [iU 0, iU 0, iU 0, iU 0]) :: Bt g2 [iU 0, iU 4611686018427387904] :: Bt g1 L167 :: bs) rs K) (H.drew.padG [] [] rfl rfl) ?_ ?_
 ·refine ⟨?_, ?_, ?_, ?_, ?_, ?_, ?_, ?_, ?_, ?_, trivial⟩
  ·exact Sa
  ·exact SV (fun _ _ _ F H => Lr 3 [iU 0, iU 0] rw_26 F H)
  ·exact SV (fun _ _ _ F H => Lr 2 [iU 0, iU 4611686018427387904] rw_26 F H)
  ·exact SV (fun _ _ _ F _ => d_build (qs := #[(0, .agg #[iU 0, iU 0]), (1, L177)]) (v := L178) F rfl rfl (by kernel_rfl))
  ·exact SV (fun _ _ _ F H => Lr 2 [iU 0, iU 4611686018427387904] rw_26 F H)
  ·exact Sa
  ·exact SV (fun _ _ _ F H => Lr 3 [iU 0, iU 9223372036854775808] rw_26 F H)
  ·exact SV (fun _ _ _ F _ => d_build (qs := #[(0, L177), (1, L165)]) (v := L179) F rfl rfl (by kernel_rfl))
  ·intro L A w up hun hd F H
   have f8 : L 8 = false := hun
   have f9 : L 9 = false := up 9 8 rfl hun
   rw [f8, f9] at H
   refine step_on rfl (d_store (i := 1) (xs := L181) (us := L181) sz_79 F H rfl rfl rfl rfl rfl rfl rfl (Nat.le_of_ble_eq_true rfl) rfl) ?_
   intro xv w' H
   exact ⟨Cn, (by show Sx.Own _ _ _ _ _; rw [show Inv.add L 8 9 = false from f9]; exact H)⟩
  ·intro L A w up hun hd F H
   have t8 : L 8 = true := hd 8 rfl
   have f9 : L 9 = false := hun
   rw [t8, f9] at H
   refine step_on rfl (d_store (i := 0) (xs := L180) (us := L180) sz_79 F H rfl rfl rfl rfl rfl rfl rfl (Nat.le_of_ble_eq_true rfl) rfl) ?_
   intro xv w' H
   exact ⟨Cn, (by show Sx.Own _ _ _ _ _; rw [show Inv.add L 9 8 = true from t8]; exact H)⟩
 ·intro L A w hL F H
  have t8 : L 8 = true := hL 8 rfl
  have t9 : L 9 = true := hL 9 rfl
  rw [t8, t9] at H
  have H := H.pickN 4 0 [0, 1, 2, 3] []
  have F := F.tq [(4, pT g3 0), (5, pT g4 0)] rfl
  refine hK2 _ _ (Wr (ret2 F Tryz.results137 (res_row (i := 1) (xs := L181) rw_79 F H rfl rfl rfl rfl) (res_row (i := 0) (xs := L180) rw_79 F H rfl rfl rfl rfl) ?_))
  exact ⟨_, rfl, rfl, H.pickN 4 0 [] []⟩
abbrev L182 : Value := .tuple #[.agg #[iU 0, iU 4611686018427387904], bF]
theorem cx76 (H : Sx.Own w0 w bs rs K) : Cr 97 #[L166] w0 w (.tuple #[L178, L179, iI 0]) bs rs K := by
 refine En Tryz.func97 Tryz.ntmps97 fun A F => ?_
 refine Sp fun _ kk => Zb F (d_box F H rfl rfl L167 rfl) fun g1 A w F H => ?_
 refine Zb F (d_alloc H rfl [iU 0, iU 0, iU 0, iU 0] zero_79) fun g2 A w F H => ?_
 refine Zb F (d_alloc H rfl [iU 0, iU 0, iU 0, iU 0] zero_79) fun g3 A w F H => ?_
 refine Av F fun A F => ?_
 refine Nl kk (Sp fun _ kk => Av F fun A F => ?_)
 refine Zx F (Do if_135 F (cx74 H)) ?_
 rintro _ w ⟨rfl, H⟩ A F
 refine Zb F (d_alloc H rfl [iU 0, iU 0] zero_26) fun g4 A w F H => ?_
 refine Zs 0 [iU 0, iU 9223372036854775808] sz_26 F H fun A w F H => ?_
 refine Nl kk (Sx.seq fun K3 hK3 => wp_block (Sp fun _ kk => Av F fun A F => ?_))
 refine Zx F (Do if_119 F (cx51 H)) ?_
 rintro _ w ⟨rfl, H⟩ A F
 refine Zv F (d_un (v := bF) F rfl rfl rfl) fun A F => ?_
 refine Av F fun A F => ?_
 refine Nl kk (condF F rfl (Sp fun _ kk => Av F fun A F => ?_))
 refine Zw F (Dc (v := iI 64) if_136 F H (Calls.val (v := iI (Bi.len 9223372036854775808#128)) (wlen_c 9223372036854775808#128 _) rfl (by kernel_rfl))) fun A w F H => ?_
 iterate 2 (refine Av F ?_; intro A F)
 refine Nl kk (condF F rfl (wp_skip (hK3 _ _ (Sx.seq fun K6 hK6 => ?_))))
 have F := F.tq [(1, pT g1 0), (2, pT g2 0), (3, pT g3 0), (4, iI 0), (5, pT g4 0)] rfl
 refine Dn F [some (pT g1 0), some (.agg #[iU 0, iU 0]), some (L165), some (L177), some (L182), some (L182), some (L177), some (bF), none, none, some (bF)] (fun L A w => ∃ g5 : Nat, (L 8 = true → A.eval (.tmp 6) = pT g5 0) ∧ Sx.Own w0 w ((L 8, g5, (cond (L 9) [iU 0, iU 4611686018427387904] [iU 0, iU 0])) :: Bt g4 [iU 0, iU 9223372036854775808] :: Bt g3 [iU 0, iU 0, iU 0, iU 0] :: Bt g2 [iU 0, iU 0, iU 0, iU 0] :: Bt g1 L167 :: bs) rs K) ⟨0, (fun h => by cases h), H.drew.padG [(false, 0, [iU 0, iU 0])] [] rfl rfl⟩ ?_ ?_
 ·refine ⟨?_, ?_, ?_, ?_, ?_, ?_, ?_, ?_, ?_, ?_, ?_, trivial⟩
  ·exact Sa (hS := (fun _ _ _ _ ⟨g5, p8, H⟩ => ⟨g5, Pk p8, H⟩))
  ·exact SV (fun _ _ _ F ⟨g5, p8, H⟩ => Lr 4 [iU 0, iU 0] rw_26 F H) (fun _ _ _ _ ⟨g5, p8, H⟩ => ⟨g5, Pk p8, H⟩)
  ·exact SV (fun _ _ _ F ⟨g5, p8, H⟩ => Lr 1 [iU 0, iU 9223372036854775808] rw_26 F H) (fun _ _ _ _ ⟨g5, p8, H⟩ => ⟨g5, Pk p8, H⟩)
  ·intro L A w up hun hd F ⟨g5, p8, H⟩
   have f9 : L 9 = false := up 9 3 rfl hun
   rw [f9] at H
   refine step_on rfl (Dc (v := L177) if_125 F H (Calls.val (v := .agg #[uH (9223372036854775808#128 >>> 1), uL (9223372036854775808#128 >>> 1)]) (wrightN_c 9223372036854775808#128 1 (by omega) _) rfl (by kernel_rfl))) ?_
   rintro xv w' ⟨hx, H⟩
   exact ⟨Cs hx, ⟨g5, Pk p8, (by show Sx.Own _ _ _ _ _; rw [show Inv.add L 3 9 = false from f9]; exact H)⟩⟩
  ·intro L A w up hun hd F ⟨g5, p8, H⟩
   have f9 : L 9 = false := up 9 4 rfl hun
   rw [f9] at H
   refine step_on rfl (Dc (v := L182) if_14 F H (Calls.val (v := .tuple #[.agg #[uH (0#128 + 4611686018427387904#128), uL (0#128 + 4611686018427387904#128)], .bool (Wd.over 0#128 4611686018427387904#128)]) (wadd_c 0#128 4611686018427387904#128 _) rfl (by kernel_rfl))) ?_
   rintro xv w' ⟨hx, H⟩
   exact ⟨Cs hx, ⟨g5, Pk p8, (by show Sx.Own _ _ _ _ _; rw [show Inv.add L 4 9 = false from f9]; exact H)⟩⟩
  ·exact Sa (hS := (fun _ _ _ _ ⟨g5, p8, H⟩ => ⟨g5, Pk p8, H⟩))
  ·exact Sa (hS := (fun _ _ _ _ ⟨g5, p8, H⟩ => ⟨g5, Pk p8, H⟩))
  ·exact Sa (hS := (fun _ _ _ _ ⟨g5, p8, H⟩ => ⟨g5, Pk p8, H⟩))
  ·intro L A w up hun hd F ⟨g5, p8, H⟩
   have f8 : L 8 = false := hun
   have f9 : L 9 = false := up 9 8 rfl hun
   rw [f8, f9] at H
   refine step_on rfl (d_alloc H rfl [iU 0, iU 0] zero_26) ?_
   rintro xv w' ⟨g6, hx, H⟩
   have H := H.pickN 6 0 [0, 2, 3, 4, 5] []
   exact ⟨Cn, ⟨g6, (fun _ => (Sx.put_same F (by decide) _).trans hx), (by show Sx.Own _ _ _ _ _; rw [show Inv.add L 8 9 = false from f9]; exact H)⟩⟩
  ·intro L A w up hun hd F ⟨g5, p8, H⟩
   have t8 : L 8 = true := hd 8 rfl
   have f9 : L 9 = false := hun
   rw [t8, f9] at H
   have F := Fr.add F (p8 t8)
   refine step_on rfl (d_store (i := 0) (xs := [iU 0, iU 4611686018427387904]) (us := [iU 0, iU 4611686018427387904]) sz_26 F H rfl rfl rfl rfl rfl rfl rfl (Nat.le_of_ble_eq_true rfl) rfl) ?_
   intro xv w' H
   exact ⟨Cn, ⟨g5, p8, (by show Sx.Own _ _ _ _ _; rw [show Inv.add L 9 8 = true from t8]; exact H)⟩⟩
  ·intro L A w up hun hd F ⟨g5, p8, H⟩
   have t8 : L 8 = true := hd 8 rfl
   have t9 : L 9 = true := hd 9 rfl
   have Hj := H; rw [t8, t9] at Hj
   have F := Fr.add F (p8 t8)
   refine step_on rfl (d_move F (Or.inr rfl) rfl) ?_
   rintro xv w' ⟨hx, rfl⟩
   exact ⟨Cs hx, ⟨g5, Pk p8, H⟩⟩
 ·intro L A w hL F ⟨g5, p8, H⟩
  have t8 : L 8 = true := hL 8 rfl
  have t9 : L 9 = true := hL 9 rfl
  rw [t8, t9] at H
  have F := Fr.add F (p8 t8)
  have H := H.pickN 5 0 [0, 1, 2, 3, 4] []
  have F := F.tq [(1, pT g1 0), (2, pT g2 0), (3, pT g3 0), (4, iI 0), (5, pT g4 0), (6, pT g5 0)] rfl
  refine hK6 _ _ (Sx.seq fun K7 hK7 => ?_)
  have F := F.tq [(1, pT g1 0), (2, pT g2 0), (3, pT g3 0), (4, iI 0), (5, pT g4 0), (6, pT g5 0)] rfl
  refine Dn F [some (L177), some (pT g4 1), some (iU 9223372036854775808), some (iU 0), some (.agg #[iU 0, iU 0]), some (L182), some (L182), some (L177), some (bF), none] (fun L A w => Sx.Own w0 w (Bt g5 [iU 0, iU 4611686018427387904] :: Bt g4 [iU 0, iU 9223372036854775808] :: Bt g3 [iU 0, iU 0, iU 0, iU 0] :: Bt g2 [iU 0, iU 0, iU 0, iU 0] :: Bt g1 L167 :: bs) rs K) (H.drew.padG [] [] rfl rfl) ?_ ?_
  ·refine ⟨?_, ?_, ?_, ?_, ?_, ?_, ?_, ?_, ?_, ?_, trivial⟩
   ·exact SV (fun _ _ _ F H => Lr 0 [iU 0, iU 4611686018427387904] rw_26 F H)
   ·exact Sa
   ·exact SV (fun _ _ _ F H => Ld 1 one_22 F H)
   ·exact SV (fun _ _ _ F _ => Bn (iU 0) F rfl rfl rfl (by kernel_rfl))
   ·intro L A w up hun hd F H
    refine step_on rfl (d_call (vs := [iU 0]) (v := .agg #[iU 0, iU 0]) if_15 F H rfl rfl (Calls.val (v := L2) (Calls.val (wofV_c 0#64 _) (by kernel_rfl) (by kernel_rfl)) rfl (by kernel_rfl))) ?_
    rintro xv w' ⟨hx, H⟩
    exact ⟨Cs hx, H⟩
   ·intro L A w up hun hd F H
    refine step_on rfl (Dc (v := L182) if_14 F H (Calls.val (v := .tuple #[.agg #[uH (4611686018427387904#128 + 0#128), uL (4611686018427387904#128 + 0#128)], .bool (Wd.over 4611686018427387904#128 0#128)]) (wadd_c 4611686018427387904#128 0#128 _) rfl (by kernel_rfl))) ?_
    rintro xv w' ⟨hx, H⟩
    exact ⟨Cs hx, H⟩
   ·exact Sa
   ·exact Sa
   ·exact Sa
   ·intro L A w up hun hd F H
    refine step_on rfl (d_store (i := 0) (xs := [iU 0, iU 4611686018427387904]) (us := [iU 0, iU 4611686018427387904]) sz_26 F H rfl rfl rfl rfl rfl rfl rfl (Nat.le_of_ble_eq_true rfl) rfl) ?_
    intro xv w' H
    exact ⟨Cn, H⟩
  ·intro L A w hL F H
   have H := H.pickN 5 0 [0, 1, 2, 3, 4] []
   have F := F.tq [(1, pT g1 0), (2, pT g2 0), (3, pT g3 0), (4, iI 0), (6, pT g5 0)] rfl
   refine hK7 _ _ (Sp fun _ kk => ?_)
   iterate 2 (refine Av F ?_; intro A F)
   refine Zx F (Do if_137 F (cx75 H)) ?_
   rintro _ w ⟨rfl, H⟩ A F
   iterate 3 (refine Av F ?_; intro A F)
   refine Zb F (d_alloc H rfl [iU 0, iU 0, iU 0, iU 0] zero_79) fun g7 A w F H => ?_
   refine Zb F (d_alloc H rfl [iU 0, iU 0, iU 0, iU 0] zero_79) fun g8 A w F H => ?_
   refine Zs 1 L181 sz_79 F H fun A w F H => ?_
   refine Zs 0 L180 sz_79 F H fun A w F H => ?_
   refine Nl kk (Sx.seq fun K9 hK9 => ?_)
   have F := F.tq [(2, pT g2 0), (3, pT g3 0), (8, pT g7 0), (9, pT g8 0)] rfl
   have H := H.pickN 7 0 [0, 1, 4, 5] []
   refine Dn F [some (L178), some (L179), none, none, some (iI 0)] (fun L A w => Sx.Own w0 w (Bt g8 L180 :: Bt g7 L181 :: Bt g3 (cond (L 3) L180 [iU 0, iU 0, iU 0, iU 0]) :: Bt g2 (cond (L 2) L181 [iU 0, iU 0, iU 0, iU 0]) :: bs) rs K) (H.drew.padG [] [] rfl rfl) ?_ ?_
   ·refine ⟨?_, ?_, ?_, ?_, ?_, trivial⟩
    ·exact SV (fun _ _ _ F H => Lr 1 L181 rw_79 F H)
    ·exact SV (fun _ _ _ F H => Lr 0 L180 rw_79 F H)
    ·intro L A w up hun hd F H
     have f2 : L 2 = false := hun
     have f3 : L 3 = false := up 3 2 rfl hun
     rw [f2, f3] at H
     refine step_on rfl (d_store (i := 3) (xs := L181) (us := L181) sz_79 F H rfl rfl rfl rfl rfl rfl rfl (Nat.le_of_ble_eq_true rfl) rfl) ?_
     intro xv w' H
     exact ⟨Cn, (by show Sx.Own _ _ _ _ _; rw [show Inv.add L 2 3 = false from f3]; exact H)⟩
    ·intro L A w up hun hd F H
     have t2 : L 2 = true := hd 2 rfl
     have f3 : L 3 = false := hun
     rw [t2, f3] at H
     refine step_on rfl (d_store (i := 2) (xs := L180) (us := L180) sz_79 F H rfl rfl rfl rfl rfl rfl rfl (Nat.le_of_ble_eq_true rfl) rfl) ?_
     intro xv w' H
     exact ⟨Cn, (by show Sx.Own _ _ _ _ _; rw [show Inv.add L 3 2 = true from t2]; exact H)⟩
    ·exact Sa
   ·intro L A w hL F H
    have t2 : L 2 = true := hL 2 rfl
    have t3 : L 3 = true := hL 3 rfl
    rw [t2, t3] at H
    have H := H.pickN 4 0 [0, 1, 2, 3] []
    have F := F.tq [(2, pT g2 0), (3, pT g3 0), (4, iI 0)] rfl
    refine hK9 _ _ (Wr (ret3 F Tryz.results97 (res_row (i := 3) (xs := L181) rw_79 F H rfl rfl rfl rfl) (res_row (i := 2) (xs := L180) rw_79 F H rfl rfl rfl rfl) (res_tmp F rfl) ?_))
    exact ⟨_, rfl, rfl, H.pickN 4 0 [] []⟩
theorem cx77 (H : Sx.Own w0 w bs rs K) : Cr 119 #[L179] w0 w bT bs rs K := by
 refine En Tryz.func119 Tryz.ntmps119 fun A F => ?_
 refine Sp fun _ kk => Zb F (d_box F H rfl rfl L180 rfl) fun g1 A w F H => ?_
 refine Av F fun A F => ?_
 refine Nl kk (Sp fun _ kk => ?_)
 iterate 4 (refine Av F ?_; intro A F)
 refine Zw F (Dc (v := iI (-1)) if_16 F H (Calls.val (v := iI (Wd.cmp 4611686018427387904#128 9223372036854775808#128)) (wcmp_c 4611686018427387904#128 9223372036854775808#128 _) rfl (by kernel_rfl))) fun A w F H => ?_
 iterate 2 (refine Av F ?_; intro A F)
 refine Nl kk (Wr (ret1 F Tryz.results119 (res_tmp F rfl) ?_))
 exact ⟨_, rfl, rfl, H.pickN 1 0 [] []⟩
abbrev L183 : List Value := [iI 1, iU 0, iU 0, iU 4611686018427387904, iU 0, iU 0, iU 0, iU 0, iU 0, iU 0, iU 0, iU 0, nS, iI 1, iU 4611686018427387904, iU 0, iU 0, iU 0, iU 0, iU 0, iU 0, iU 0, iU 0, iU 0, iU 0, iW 0, iW 0, bF]
abbrev L184 : Value := .agg #[iI 1, iU 4611686018427387904, iU 0, iU 0, iU 0, iU 0, iU 0, iU 0, iU 0, iU 0, iU 0, iU 0, iW 0, iW 0, bF]
theorem cx78 (H : Sx.Own w0 w bs rs K) : Cq 138 #[iI 1, iU 0, L177] w fun x w' => ∃ g3 : Nat, x = .tuple #[pT g3 0, iI 0] ∧ Sx.Own w0 w' (Bt g3 L183 :: bs) rs K := by
 refine En Tryz.func138 Tryz.ntmps138 fun A F => ?_
 refine Sp fun _ kk => Zb F (d_box F H rfl rfl [iU 0, iU 4611686018427387904] rfl) fun g1 A w F H => ?_
 iterate 2 (refine Av F ?_; intro A F)
 refine Nl kk (Sp fun _ kk => ?_)
 iterate 2 (refine Av F ?_; intro A F)
 refine Zw F (Dc (v := L170) if_81 F H (Calls.val (v' := L170) (snew1_c 0#64 _) rfl (by kernel_rfl))) fun A w F H => ?_
 iterate 3 (refine Av F ?_; intro A F)
 refine Zb F (d_alloc H rfl L79 zero_35) fun g2 A w F H => ?_
 refine Zs 0 L171 sz_35 F H fun A w F H => ?_
 refine Av F fun A F => ?_
 refine Nl kk (Sx.seq fun K3 hK3 => wp_block (Sp fun _ kk => ?_))
 iterate 3 (refine Av F ?_; intro A F)
 refine Nl kk (condF F rfl (Sx.seq fun K5 hK5 => ?_))
 have F := F.tq [(0, iI 1), (1, iU 0), (5, pT g1 0), (6, nP), (7, iI 0), (8, pT g2 0), (9, iI 0)] rfl
 refine Dn F [some (L177), some (iI 1), some (L165), some (iI (-1)), some (bF), some (bF)] (fun L A w => Sx.Own w0 w (Bt g2 L171 :: Bt g1 [iU 0, iU 4611686018427387904] :: bs) rs K) (H.drew.padG [] [] rfl rfl) ?_ ?_
 ·refine ⟨?_, ?_, ?_, ?_, ?_, ?_, trivial⟩
  ·exact SV (fun _ _ _ F H => Lr 1 [iU 0, iU 4611686018427387904] rw_26 F H)
  ·exact Sa
  ·intro L A w up hun hd F H
   refine step_on rfl (Dc (v := L165) if_17 F H (Calls.val (v := L66) (glimit1_c _) rfl (by kernel_rfl))) ?_
   rintro xv w' ⟨hx, H⟩
   exact ⟨Cs hx, H⟩
  ·intro L A w up hun hd F H
   refine step_on rfl (Dc (v := iI (-1)) if_16 F H (Calls.val (v := iI (Wd.cmp 4611686018427387904#128 9223372036854775808#128)) (wcmp_c 4611686018427387904#128 9223372036854775808#128 _) rfl (by kernel_rfl))) ?_
   rintro xv w' ⟨hx, H⟩
   exact ⟨Cs hx, H⟩
  ·exact Sa
  ·exact Sa
 ·intro L A w hL F H
  have H := H.pickN 2 0 [0, 1] []
  have F := F.tq [(0, iI 1), (1, iU 0), (5, pT g1 0), (6, nP), (7, iI 0), (8, pT g2 0), (9, iI 0), (20, bF)] rfl
  refine hK5 _ _ (condF F rfl (wp_skip (hK3 _ _ (Sp fun _ kk => ?_))))
  iterate 2 (refine Av F ?_; intro A F)
  refine Zw F (Dc (v := .tuple #[L184, iI 0]) if_6 F H (Calls.val (v := .tuple #[.agg #[iI 1, uN (Mx.jump 0#64 (Wd.lo 4611686018427387904#128)), iU 0, iU 0, iU 0, iU 0, uN (Wd.hi 0#128), uN (Wd.lo 0#128), uN (Wd.hi 0#128), uN (Wd.lo 0#128), uN (Wd.hi 0#128), uN (Wd.lo 0#128), iW 0, iW 0, bF], iI 0]) (gjmp1_ok 0#64 4611686018427387904#128 _) rfl (by kernel_rfl))) fun A w F H => ?_
  iterate 3 (refine Av F ?_; intro A F)
  refine Zs 0 [iI 1, iU 4611686018427387904, iU 0, iU 0, iU 0, iU 0, iU 0, iU 0, iU 0, iU 0, iU 0, iU 0, iW 0, iW 0, bF] sz_35 F H fun A w F H => ?_
  refine Av F fun A F => ?_
  refine Nl kk (Sp fun _ kk => ?_)
  iterate 4 (refine Av F ?_; intro A F)
  refine Zv F (d_build (qs := #[(0, iI 1), (1, iU 0), (2, L177), (5, L184)]) (v := .agg #[iI 1, iU 0, iU 0, iU 4611686018427387904, iU 0, iU 0, iU 0, iU 0, iU 0, iU 0, iU 0, iU 0, nS, iI 1, iU 4611686018427387904, iU 0, iU 0, iU 0, iU 0, iU 0, iU 0, iU 0, iU 0, iU 0, iU 0, iW 0, iW 0, bF]) F rfl rfl (by kernel_rfl)) fun A F => ?_
  refine Zb F (d_box F H rfl rfl L183 rfl) fun g3 A w F H => ?_
  iterate 3 (refine Av F ?_; intro A F)
  refine Nl kk (Wr (ret2 F Tryz.results138 (res_tmp F rfl) (res_tmp F rfl) ?_))
  exact ⟨_, rfl, g3, rfl, H.pickN 3 0 [0] []⟩
theorem cx79 (H : Sx.Own w0 w bs rs K) : Cq 98 #[iI 1, iU 0, L179] w fun x w' => ∃ g4 g3 : Nat, x = .tuple #[pT g4 0, iI 0] ∧ Sx.Own w0 w' (Bt g4 (L172 g3) :: Bt g3 L183 :: bs) rs K := by
 refine En Tryz.func98 Tryz.ntmps98 fun A F => ?_
 refine Sp fun _ kk => Zb F (d_box F H rfl rfl L180 rfl) fun g1 A w F H => ?_
 iterate 2 (refine Av F ?_; intro A F)
 refine Nl kk (Sp fun _ kk => Av F fun A F => ?_)
 refine Zw F (Dc (v := L165) if_17 F H (Calls.val (v := L66) (glimit1_c _) rfl (by kernel_rfl))) fun A w F H => ?_
 refine Zb F (d_alloc H rfl [iU 0, iU 0] zero_26) fun g2 A w F H => ?_
 refine Zs 0 [iU 0, iU 9223372036854775808] sz_26 F H fun A w F H => ?_
 refine Nl kk (Sx.seq fun K3 hK3 => wp_block (Sp fun _ kk => Av F fun A F => ?_))
 refine Zv F (d_build (qs := #[]) (v := .agg #[iU 0, iU 0]) F rfl rfl (by kernel_rfl)) fun A F => ?_
 refine Zn bF F fun A F => ?_
 refine Av F fun A F => ?_
 refine Nl kk (condF F rfl (Sp fun _ kk => Av F fun A F => ?_))
 refine Zx F (Do if_119 F (cx77 H)) ?_
 rintro _ w ⟨rfl, H⟩ A F
 refine Zv F (d_un (v := bF) F rfl rfl rfl) fun A F => ?_
 refine Av F fun A F => ?_
 refine Nl kk (condF F rfl (Sp fun _ kk => ?_))
 iterate 3 (refine Av F ?_; intro A F)
 refine Zw F (Dc (v := iI 0) if_16 F H (Calls.val (v := iI (Wd.cmp 9223372036854775808#128 9223372036854775808#128)) (wcmp_c 9223372036854775808#128 9223372036854775808#128 _) rfl (by kernel_rfl))) fun A w F H => ?_
 iterate 2 (refine Av F ?_; intro A F)
 refine Nl kk (condF F rfl (wp_skip (hK3 _ _ (Sp fun _ kk => ?_))))
 iterate 4 (refine Av F ?_; intro A F)
 refine Zx F (Do if_138 F (cx78 H)) ?_
 rintro _ w ⟨g3, rfl, H⟩ A F
 iterate 5 (refine Av F ?_; intro A F)
 refine Nl kk (Sx.seq fun K8 hK8 => Sp fun _ kk => ?_)
 iterate 2 (refine Av F ?_; intro A F)
 refine Nl kk (condF F rfl (wp_skip (hK8 _ _ (Sp fun _ kk => ?_))))
 iterate 3 (refine Av F ?_; intro A F)
 refine Zv F (d_build (qs := #[(0, pT g3 0), (1, L165)]) (v := .agg #[pT g3 0, iU 0, iU 9223372036854775808]) F rfl rfl (by kernel_rfl)) fun A F => ?_
 refine Zb F (d_box F H rfl rfl (L172 g3) rfl) fun g4 A w F H => ?_
 iterate 2 (refine Av F ?_; intro A F)
 refine Nl kk (Wr (ret2 F Tryz.results98 (res_tmp F rfl) (res_tmp F rfl) ?_))
 exact ⟨_, rfl, g4, g3, rfl, H.pickN 4 0 [0, 1] []⟩
abbrev L185 (x0 : Nat) : List Value := [pT x0 0, iU 0, iU 4611686018427387904]
theorem cx80 (H : Sx.Own w0 w (Bt g1 (L172 g2) :: Bt g2 L168 :: bs) rs K) : Cr 99 #[pT g1 0, L177] w0 w (iI 0) (Bt g1 (L185 g2) :: Bt g2 L168 :: bs) rs K := by
 refine En Tryz.func99 Tryz.ntmps99 fun A F => ?_
 refine Sp fun _ kk => Zb F (d_box F H rfl rfl [iU 0, iU 4611686018427387904] rfl) fun g3 A w F H => ?_
 refine Av F fun A F => ?_
 refine Nl kk (Sx.seq fun K2 hK2 => Sx.seq fun K3 hK3 => ?_)
 have F := F.tq (L119 g1 g3) rfl
 refine Dn F [some (L177), some (pT g1 0), some (pT g1 0), some (pT g1 0), some (pT g2 0), some (.agg #[iU 0, iU 0]), some (iI 1), some (bF), some (bF), some (L177), some (pT g1 0), some (pT g1 0), some (pT g1 1), some (L165), some (iI (-1)), some (bF), some (bF)] (fun L A w => Sx.Own w0 w (Bt g3 [iU 0, iU 4611686018427387904] :: Bt g1 (L172 g2) :: Bt g2 L168 :: bs) rs K) (H.drew.padG [] [] rfl rfl) ?_ ?_
 ·refine ⟨?_, ?_, ?_, ?_, ?_, ?_, ?_, ?_, ?_, ?_, ?_, ?_, ?_, ?_, ?_, ?_, ?_, trivial⟩
  ·exact SV (fun _ _ _ F H => Lr 0 [iU 0, iU 4611686018427387904] rw_26 F H)
  ·exact Sa
  ·exact Sa
  ·exact Sa
  ·exact SV (fun _ _ _ F H => Ld 1 one_220 F H)
  ·intro L A w up hun hd F H
   have H : Sx.Own w0 w (Bt g3 [iU 0, iU 4611686018427387904] :: Bt g1 (L172 g2) :: Bt g2 L168 :: bs) rs K := H
   have H := H.pickN 3 0 [2, 0, 1] []
   refine step_on rfl (Do if_124 F (cx72 H)) ?_
   rintro xv w' ⟨hx, H⟩
   have H := H.pickN 3 0 [1, 2, 0] []
   exact ⟨Cs hx, H⟩
  ·intro L A w up hun hd F H
   refine step_on rfl (Dc (v := iI 1) if_16 F H (Calls.val (v := iI (Wd.cmp 4611686018427387904#128 0#128)) (wcmp_c 4611686018427387904#128 0#128 _) rfl (by kernel_rfl))) ?_
   rintro xv w' ⟨hx, H⟩
   exact ⟨Cs hx, H⟩
  ·exact Sa
  ·exact Sa
  ·exact SVg (fun _ _ _ F H => Lr 0 [iU 0, iU 4611686018427387904] rw_26 F H)
  ·exact SVg (fun _ _ _ F _ => d_move F (Or.inl rfl) rfl)
  ·exact SVg (fun _ _ _ F _ => d_nil F rfl rfl)
  ·exact SVg (fun _ _ _ F _ => Fd F (fa_222_1.default.h _ _ _))
  ·exact SVg (fun _ _ _ F H => Lr 1 [iU 0, iU 9223372036854775808] rw_26 F H)
  ·intro L A w up hun hd F H
   refine step_ong rfl (guard_known (d := 13) (b := false) F rfl rfl) rfl (Dc (v := iI (-1)) if_16 F H (Calls.val (v := iI (Wd.cmp 4611686018427387904#128 9223372036854775808#128)) (wcmp_c 4611686018427387904#128 9223372036854775808#128 _) rfl (by kernel_rfl))) ?_
   rintro xv w' ⟨hx, H⟩
   exact ⟨Cs hx, H⟩
  ·exact SVg (fun _ _ _ F _ => Bn bF F rfl rfl rfl (i_gt (by decide)))
  ·exact Sa
 ·intro L A w hL F H
  have H := H.pickN 3 0 [0, 1, 2] []
  have F := F.tq [(0, pT g1 0), (3, pT g3 0), (4, iI 0), (21, bF)] rfl
  refine hK3 _ _ (condF F rfl (wp_skip (hK2 _ _ (Sp fun _ kk => ?_))))
  iterate 4 (refine Av F ?_; intro A F)
  refine Zs 1 (L185 g2) sz_26 F H fun A w F H => ?_
  refine Nl kk (Sp fun _ kk => Av F fun A F => ?_)
  refine Nl kk (Wr (ret1 F Tryz.results99 (res_tmp F rfl) ?_))
  exact ⟨_, rfl, rfl, H.pickN 3 0 [1, 2] []⟩
theorem cx81 (hbc1 : 1 ≤ c1) (H : Sx.Own w0 w (Bt g1 [sL g3 0 1 c1, iI 1] :: bs) (⟨true, sL g3 0 1 c1, 217, 2, 1, [iI 0, pT g4 0]⟩ :: rs) K) : Cq 134 #[pT g1 0, iI 1, pT g2 0] w fun x w' => ∃ g6 c2 : Nat, 2 ≤ c2 ∧ x = iI 0 ∧ Sx.Own w0 w' (Bt g1 [sL g6 0 2 c2, iI 2] :: bs) (⟨true, sL g6 0 2 c2, 217, 2, 2, [iI 0, pT g4 0, iI 1, pT g2 0]⟩ :: rs) K := by
 refine En Tryz.func134 Tryz.ntmps134 fun A F => ?_
 refine Sp fun _ kk => Av F fun A F => ?_
 refine Nl kk (Sx.seq fun K2 hK2 => wp_block (Sp fun _ kk => ?_))
 iterate 4 (refine Av F ?_; intro A F)
 refine Zv F (d_lenS el_213 F rfl rfl) fun A F => ?_
 iterate 2 (refine Av F ?_; intro A F)
 refine Nl kk (condF F rfl (Sp fun _ kk => ?_))
 iterate 11 (refine Av F ?_; intro A F)
 refine Nl kk (condF F rfl (wp_skip (hK2 _ _ (Sp fun _ kk => ?_))))
 iterate 7 (refine Av F ?_; intro A F)
 refine Zv F (d_build (qs := #[(0, iI 1), (1, pT g2 0)]) (v := .agg #[iI 1, pT g2 0]) F rfl rfl (by kernel_rfl)) fun A F => ?_
 refine Zg (mk := fun g => sL g 0 1 1) F (d_lit (qs := #[(0, .agg #[iI 1, pT g2 0])]) (cs := #[iI 1, pT g2 0]) (E := 217) F H rfl rfl (fun _ => by kernel_rfl)) fun g5 A w F H => ?_
 refine Zr (mk := fun v => v) F (d_append (i := 0) (j := 0) el_213 F H rfl rfl rfl rfl rfl rfl rfl rfl (by decide) (by decide)) fun v1 A w F H => ?_
 obtain ⟨g6, c2, rfl, hbc2, hdc2⟩ := H.open (i := 0) rfl (by decide)
 iterate 2 (refine Av F ?_; intro A F)
 refine Zs 1 [sL g6 0 2 c2, iI 1] sz_213 F H fun A w F H => ?_
 refine Nl kk (Sp fun _ kk => ?_)
 iterate 2 (refine Av F ?_; intro A F)
 refine Zn (iI 2) F fun A F => ?_
 iterate 2 (refine Av F ?_; intro A F)
 refine Zs 1 [sL g6 0 2 c2, iI 2] sz_3 F H fun A w F H => ?_
 refine Nl kk (Sp fun _ kk => Av F fun A F => ?_)
 refine Nl kk (Wr (ret1 F Tryz.results134 (res_tmp F rfl) ?_))
 exact ⟨_, rfl, g6, c2, (by omega), rfl, H.pickN 2 1 [1] [0]⟩
theorem cx82 (hbc1 : 1 ≤ c1) (H : Sx.Own w0 w (Bt g1 [sL g3 0 1 c1, iI 1] :: bs) (⟨true, sL g3 0 1 c1, 217, 2, 1, [iI 0, pT g4 0]⟩ :: rs) K) : Cq 100 #[pT g1 0, pT g2 0] w fun x w' => ∃ g5 c2 : Nat, 2 ≤ c2 ∧ x = .tuple #[iI 1, iI 0] ∧ Sx.Own w0 w' (Bt g1 [sL g5 0 2 c2, iI 2] :: bs) (⟨true, sL g5 0 2 c2, 217, 2, 2, [iI 0, pT g4 0, iI 1, pT g2 0]⟩ :: rs) K := by
 refine En Tryz.func100 Tryz.ntmps100 fun A F => ?_
 refine Sp fun _ kk => ?_
 iterate 2 (refine Av F ?_; intro A F)
 refine Nl kk (Sp fun _ kk => ?_)
 iterate 5 (refine Av F ?_; intro A F)
 refine Nl kk (Sx.seq fun K3 hK3 => wp_block (Sp fun _ kk => ?_))
 iterate 4 (refine Av F ?_; intro A F)
 refine Zv F (d_lenS el_213 F rfl rfl) fun A F => ?_
 iterate 2 (refine Av F ?_; intro A F)
 refine Nl kk (condF F rfl (Sp fun _ kk => ?_))
 iterate 3 (refine Av F ?_; intro A F)
 refine Nl kk (condF F rfl (wp_skip (hK3 _ _ (Sp fun _ kk => ?_))))
 iterate 4 (refine Av F ?_; intro A F)
 refine Zx F (Do if_134 F (cx81 (by omega) H)) ?_
 rintro _ w ⟨g5, c2, hbc2, rfl, H⟩ A F
 iterate 2 (refine Av F ?_; intro A F)
 refine Nl kk (Wr (ret2 F Tryz.results100 (res_tmp F rfl) (res_tmp F rfl) ?_))
 exact ⟨_, rfl, g5, c2, (by omega), rfl, H.pickN 1 1 [0] [0]⟩
abbrev L186 : List Sx.Bx := [(false, 0, [pT 0 0, iU 0, iU 9223372036854775808]), (false, 0, [iI 1, iU 0, iU 0, iU 4611686018427387904, iU 0, iU 0, iU 0, iU 0, iU 0, iU 0, iU 0, iU 0, nS, iI 1, iU 4611686018427387904, iU 0, iU 0, iU 0, iU 0, iU 0, iU 0, iU 0, iU 0, iU 0, iU 0, iW 0, iW 0, bF])]
theorem cx83 (hbc1 : 1 ≤ c1) (H : Sx.Own w0 w (Bt g1 [pT g2 0, iI 1, iU 0] :: Bt g2 [sL g3 0 1 c1, iI 1] :: Bt g4 (L172 g5) :: Bt g5 L168 :: bs) (⟨true, sL g3 0 1 c1, 217, 2, 1, [iI 0, pT g4 0]⟩ :: rs) K) : Cq 72 #[pT g1 0, iI 0] w fun x w' => ∃ g13 c3 g9 g10 : Nat, 2 ≤ c3 ∧ x = .tuple #[iI 1, iI 0] ∧ Sx.Own w0 w' (Bt g1 [pT g2 0, iI 1, iU 0] :: Bt g2 [sL g13 0 2 c3, iI 2] :: Bt g4 (L185 g5) :: Bt g5 L168 :: Bt g9 (L172 g10) :: Bt g10 L183 :: bs) (⟨true, sL g13 0 2 c3, 217, 2, 2, [iI 0, pT g4 0, iI 1, pT g9 0]⟩ :: rs) K := by
 refine En Tryz.func72 Tryz.ntmps72 fun A F => ?_
 refine Sp fun _ kk => ?_
 iterate 2 (refine Av F ?_; intro A F)
 refine Nl kk (Sp fun _ kk => ?_)
 iterate 2 (refine Av F ?_; intro A F)
 refine Zx F (Do if_95 F (cx69 (by omega) H)) ?_
 rintro _ w ⟨rfl, H⟩ A F
 iterate 5 (refine Av F ?_; intro A F)
 refine Nl kk (Sx.seq fun K3 hK3 => wp_block (Sp fun _ kk => ?_))
 iterate 3 (refine Av F ?_; intro A F)
 refine Nl kk (condF F rfl (Sp fun _ kk => ?_))
 iterate 4 (refine Av F ?_; intro A F)
 have H := H.pickN 4 1 [1, 0, 2, 3] [0]
 refine Zx F (Do if_82 F (cx70 (by omega) H)) ?_
 rintro _ w ⟨g6, c2, hbc2, rfl, H⟩ A F
 refine Zv F (d_lenS el_54 F rfl rfl) fun A F => ?_
 iterate 2 (refine Av F ?_; intro A F)
 refine Nl kk (condF F rfl (Sp fun _ kk => ?_))
 iterate 4 (refine Av F ?_; intro A F)
 refine Zx F (Do if_96 F (cx71 (by omega) H)) ?_
 rintro _ w ⟨rfl, H⟩ A F
 iterate 2 (refine Av F ?_; intro A F)
 refine Nl kk (condF F rfl (wp_skip (hK3 _ _ (Sp fun _ kk => Av F fun A F => ?_))))
 have H := H.pickN 4 2 [2, 3, 0, 1] [0, 1]
 refine Zx F (Do if_84 F (cx73 H)) ?_
 rintro _ w ⟨rfl, H⟩ A F
 refine Zx F (Do if_97 F (cx76 H)) ?_
 rintro _ w ⟨rfl, H⟩ A F
 iterate 4 (refine Av F ?_; intro A F)
 refine Zb F (d_alloc H rfl [iU 0, iU 0, iU 0, iU 0] zero_79) fun g7 A w F H => ?_
 refine Zb F (d_alloc H rfl [iU 0, iU 0, iU 0, iU 0] zero_79) fun g8 A w F H => ?_
 refine Zs 1 L181 sz_79 F H fun A w F H => ?_
 refine Zs 0 L180 sz_79 F H fun A w F H => ?_
 refine Av F fun A F => ?_
 refine Nl kk (Sx.seq fun K8 hK8 => Sp fun _ kk => ?_)
 iterate 2 (refine Av F ?_; intro A F)
 refine Nl kk (condF F rfl (wp_skip (hK8 _ _ (Sx.seq fun K10 hK10 => ?_))))
 have F := F.tq [(0, pT g1 0), (4, iI 0), (5, iI 0), (6, pT g4 0), (8, pT g7 0), (9, pT g8 0)] rfl
 have H := H.pickN 6 2 [0, 1, 2, 3, 4, 5] [0]
 refine Dn F [some (pT g1 0), some (pT g1 0), some (pT g1 1), some (iI 1), some (pT g1 0), some (pT g1 0), some (pT g1 2), some (iU 0), some (L179), none, none, none, some (iI 0), none, some (iI 0)] (fun L A w => ∃ g9 : Nat, ∃ g10 : Nat, (L 9 = true → A.eval (.tmp 56) = .tuple #[pT g9 0, iI 0]) ∧ (L 10 = true → A.eval (.tmp 46) = .tuple #[pT g9 0, iI 0]) ∧ (L 11 = true → A.eval (.tmp 57) = pT g9 0) ∧ (L 13 = true → A.eval (.tmp 10) = pT g9 0) ∧ Sx.Own w0 w ((L 9, g9, (L172 g10)) :: (L 9, g10, L183) :: Bt g8 L180 :: Bt g7 L181 :: Bt g4 (L172 g5) :: Bt g5 L168 :: Bt g2 [sL g3 0 1 c1, iI 1] :: Bt g1 [pT g2 0, iI 1, iU 0] :: bs) (⟨true, sL g3 0 1 c1, 217, 2, 1, [iI 0, pT g4 0]⟩ :: rs) K) ⟨0, 0, (fun h => by cases h), (fun h => by cases h), (fun h => by cases h), (fun h => by cases h), H.drew.padG L186 [] rfl rfl⟩ ?_ ?_
 ·refine ⟨?_, ?_, ?_, ?_, ?_, ?_, ?_, ?_, ?_, ?_, ?_, ?_, ?_, ?_, ?_, trivial⟩
  ·intro L A w up hun hd F ⟨g9, g10, p9, p10, p11, p13, H⟩
   have f1 : L 1 = false := up 1 0 rfl hun
   have f2 : L 2 = false := up 2 1 rfl f1
   have f3 : L 3 = false := up 3 2 rfl f2
   have f9 : L 9 = false := up 9 3 rfl f3
   have f10 : L 10 = false := up 10 9 rfl f9
   have f11 : L 11 = false := up 11 10 rfl f10
   have f13 : L 13 = false := up 13 0 rfl hun
   have Hj := H; rw [f9] at Hj
   refine step_on rfl (d_move F (Or.inl rfl) rfl) ?_
   rintro xv w' ⟨hx, rfl⟩
   exact ⟨Cs hx, ⟨g9, g10, Nf f9, Nf f10, Nf f11, Nf f13, H⟩⟩
  ·intro L A w up hun hd F ⟨g9, g10, p9, p10, p11, p13, H⟩
   have f2 : L 2 = false := up 2 1 rfl hun
   have f3 : L 3 = false := up 3 2 rfl f2
   have f9 : L 9 = false := up 9 3 rfl f3
   have f10 : L 10 = false := up 10 9 rfl f9
   have f11 : L 11 = false := up 11 10 rfl f10
   have f13 : L 13 = false := up 13 1 rfl hun
   have Hj := H; rw [f9] at Hj
   refine step_on rfl (d_nil F rfl rfl) ?_
   rintro xv w' ⟨hx, rfl⟩
   exact ⟨Cs hx, ⟨g9, g10, Nf f9, Nf f10, Nf f11, Nf f13, H⟩⟩
  ·intro L A w up hun hd F ⟨g9, g10, p9, p10, p11, p13, H⟩
   have f3 : L 3 = false := up 3 2 rfl hun
   have f9 : L 9 = false := up 9 3 rfl f3
   have f10 : L 10 = false := up 10 9 rfl f9
   have f11 : L 11 = false := up 11 10 rfl f10
   have f13 : L 13 = false := up 13 2 rfl hun
   have Hj := H; rw [f9] at Hj
   refine step_on rfl (Fd F (fa_160_1.default.h _ _ _)) ?_
   rintro xv w' ⟨hx, rfl⟩
   exact ⟨Cs hx, ⟨g9, g10, Nf f9, Nf f10, Nf f11, Nf f13, H⟩⟩
  ·intro L A w up hun hd F ⟨g9, g10, p9, p10, p11, p13, H⟩
   have f9 : L 9 = false := up 9 3 rfl hun
   have f10 : L 10 = false := up 10 9 rfl f9
   have f11 : L 11 = false := up 11 10 rfl f10
   have f13 : L 13 = false := up 13 3 rfl hun
   have Hj := H; rw [f9] at Hj
   refine step_on rfl (Ld 7 one_3 F Hj) ?_
   rintro xv w' ⟨hx, rfl⟩
   exact ⟨Cs hx, ⟨g9, g10, Nf f9, Nf f10, Nf f11, Nf f13, H⟩⟩
  ·intro L A w up hun hd F ⟨g9, g10, p9, p10, p11, p13, H⟩
   have f5 : L 5 = false := up 5 4 rfl hun
   have f6 : L 6 = false := up 6 5 rfl f5
   have f7 : L 7 = false := up 7 6 rfl f6
   have f9 : L 9 = false := up 9 7 rfl f7
   have f10 : L 10 = false := up 10 9 rfl f9
   have f11 : L 11 = false := up 11 10 rfl f10
   have f13 : L 13 = false := up 13 4 rfl hun
   have Hj := H; rw [f9] at Hj
   refine step_on rfl (d_move F (Or.inl rfl) rfl) ?_
   rintro xv w' ⟨hx, rfl⟩
   exact ⟨Cs hx, ⟨g9, g10, Nf f9, Nf f10, Nf f11, Nf f13, H⟩⟩
  ·intro L A w up hun hd F ⟨g9, g10, p9, p10, p11, p13, H⟩
   have f6 : L 6 = false := up 6 5 rfl hun
   have f7 : L 7 = false := up 7 6 rfl f6
   have f9 : L 9 = false := up 9 7 rfl f7
   have f10 : L 10 = false := up 10 9 rfl f9
   have f11 : L 11 = false := up 11 10 rfl f10
   have f13 : L 13 = false := up 13 5 rfl hun
   have Hj := H; rw [f9] at Hj
   refine step_on rfl (d_nil F rfl rfl) ?_
   rintro xv w' ⟨hx, rfl⟩
   exact ⟨Cs hx, ⟨g9, g10, Nf f9, Nf f10, Nf f11, Nf f13, H⟩⟩
  ·intro L A w up hun hd F ⟨g9, g10, p9, p10, p11, p13, H⟩
   have f7 : L 7 = false := up 7 6 rfl hun
   have f9 : L 9 = false := up 9 7 rfl f7
   have f10 : L 10 = false := up 10 9 rfl f9
   have f11 : L 11 = false := up 11 10 rfl f10
   have f13 : L 13 = false := up 13 6 rfl hun
   have Hj := H; rw [f9] at Hj
   refine step_on rfl (Fd F (fa_160_2.default.h _ _ _)) ?_
   rintro xv w' ⟨hx, rfl⟩
   exact ⟨Cs hx, ⟨g9, g10, Nf f9, Nf f10, Nf f11, Nf f13, H⟩⟩
  ·intro L A w up hun hd F ⟨g9, g10, p9, p10, p11, p13, H⟩
   have f9 : L 9 = false := up 9 7 rfl hun
   have f10 : L 10 = false := up 10 9 rfl f9
   have f11 : L 11 = false := up 11 10 rfl f10
   have f13 : L 13 = false := up 13 7 rfl hun
   have Hj := H; rw [f9] at Hj
   refine step_on rfl (Ld 7 one_22 F Hj) ?_
   rintro xv w' ⟨hx, rfl⟩
   exact ⟨Cs hx, ⟨g9, g10, Nf f9, Nf f10, Nf f11, Nf f13, H⟩⟩
  ·intro L A w up hun hd F ⟨g9, g10, p9, p10, p11, p13, H⟩
   have f9 : L 9 = false := up 9 8 rfl hun
   have f10 : L 10 = false := up 10 9 rfl f9
   have f11 : L 11 = false := up 11 10 rfl f10
   have f13 : L 13 = false := up 13 8 rfl hun
   have Hj := H; rw [f9] at Hj
   refine step_on rfl (Lr 2 L180 rw_79 F Hj) ?_
   rintro xv w' ⟨hx, rfl⟩
   exact ⟨Cs hx, ⟨g9, g10, Nf f9, Nf f10, Nf f11, Nf f13, H⟩⟩
  ·intro L A w up hun hd F ⟨g9, g10, p9, p10, p11, p13, H⟩
   have f9 : L 9 = false := hun
   have f10 : L 10 = false := up 10 9 rfl hun
   have f11 : L 11 = false := up 11 10 rfl f10
   have f13 : L 13 = false := up 13 9 rfl hun
   rw [f9] at H
   have H : Sx.Own w0 w ((false, g9, (L172 g10)) :: (false, g10, L183) :: Bt g8 L180 :: Bt g7 L181 :: Bt g4 (L172 g5) :: Bt g5 L168 :: Bt g2 [sL g3 0 1 c1, iI 1] :: Bt g1 [pT g2 0, iI 1, iU 0] :: bs) (⟨true, sL g3 0 1 c1, 217, 2, 1, [iI 0, pT g4 0]⟩ :: rs) K := H
   refine step_on rfl (Do if_98 F (cx79 H)) ?_
   rintro xv w' ⟨g11, g12, hx, H⟩
   have H := H.pickN 10 1 [0, 1, 4, 5, 6, 7, 8, 9] [0]
   exact ⟨Cn, ⟨g11, g12, (fun _ => (Sx.put_same F (by decide) _).trans hx), Nf f10, Nf f11, Nf f13, H⟩⟩
  ·intro L A w up hun hd F ⟨g9, g10, p9, p10, p11, p13, H⟩
   have t9 : L 9 = true := hd 9 rfl
   have f10 : L 10 = false := hun
   have f11 : L 11 = false := up 11 10 rfl hun
   have f13 : L 13 = false := up 13 10 rfl hun
   have Hj := H; rw [t9] at Hj
   have F := Fr.add F (p9 t9)
   refine step_on rfl (d_move F (Or.inl rfl) rfl) ?_
   rintro xv w' ⟨hx, rfl⟩
   exact ⟨Cn, ⟨g9, g10, Pk p9, (fun _ => (Sx.put_same F (by decide) _).trans hx), Nf f11, Nf f13, H⟩⟩
  ·intro L A w up hun hd F ⟨g9, g10, p9, p10, p11, p13, H⟩
   have t9 : L 9 = true := by
    cases hb : L 9 with
    | true => rfl
    | false =>
     have hb10 := up 10 9 rfl hb
     rw [hd 10 rfl] at hb10; cases hb10
   have t10 : L 10 = true := hd 10 rfl
   have f11 : L 11 = false := hun
   have f13 : L 13 = false := up 13 11 rfl hun
   have Hj := H; rw [t9] at Hj
   have F := Fr.add F (p9 t9)
   have F := Fr.add F (p10 t10)
   refine step_on rfl (d_extract (v := pT g9 0) F rfl rfl rfl) ?_
   rintro xv w' ⟨hx, rfl⟩
   exact ⟨Cn, ⟨g9, g10, Pk p9, Pk p10, (fun _ => (Sx.put_same F (by decide) _).trans hx), Nf f13, H⟩⟩
  ·intro L A w up hun hd F ⟨g9, g10, p9, p10, p11, p13, H⟩
   have t9 : L 9 = true := by
    cases hb : L 9 with
    | true => rfl
    | false =>
     have hb10 := up 10 9 rfl hb
     rw [hd 10 rfl] at hb10; cases hb10
   have t10 : L 10 = true := hd 10 rfl
   have Hj := H; rw [t9] at Hj
   have F := Fr.add F (p9 t9)
   have F := Fr.add F (p10 t10)
   refine step_on rfl (d_extract (v := iI 0) F rfl rfl rfl) ?_
   rintro xv w' ⟨hx, rfl⟩
   exact ⟨Cs hx, ⟨g9, g10, Pk p9, Pk p10, Pk p11, Pk p13, H⟩⟩
  ·intro L A w up hun hd F ⟨g9, g10, p9, p10, p11, p13, H⟩
   have t9 : L 9 = true := hd 9 rfl
   have t10 : L 10 = true := hd 10 rfl
   have t11 : L 11 = true := hd 11 rfl
   have f13 : L 13 = false := hun
   have Hj := H; rw [t9] at Hj
   have F := Fr.add F (p9 t9)
   have F := Fr.add F (p10 t10)
   have F := Fr.add F (p11 t11)
   refine step_on rfl (d_move F (Or.inr rfl) rfl) ?_
   rintro xv w' ⟨hx, rfl⟩
   exact ⟨Cn, ⟨g9, g10, Pk p9, Pk p10, Pk p11, (fun _ => (Sx.put_same F (by decide) _).trans hx), H⟩⟩
  ·intro L A w up hun hd F ⟨g9, g10, p9, p10, p11, p13, H⟩
   have t9 : L 9 = true := hd 9 rfl
   have t10 : L 10 = true := hd 10 rfl
   have t11 : L 11 = true := hd 11 rfl
   have t13 : L 13 = true := hd 13 rfl
   have Hj := H; rw [t9] at Hj
   have F := Fr.add F (p9 t9)
   have F := Fr.add F (p10 t10)
   have F := Fr.add F (p11 t11)
   have F := Fr.add F (p13 t13)
   refine step_on rfl (d_move F (Or.inr rfl) rfl) ?_
   rintro xv w' ⟨hx, rfl⟩
   exact ⟨Cs hx, ⟨g9, g10, Pk p9, Pk p10, Pk p11, Pk p13, H⟩⟩
 ·intro L A w hL F ⟨g9, g10, p9, p10, p11, p13, H⟩
  have t9 : L 9 = true := hL 9 rfl
  have t10 : L 10 = true := hL 10 rfl
  have t11 : L 11 = true := hL 11 rfl
  have t13 : L 13 = true := hL 13 rfl
  rw [t9] at H
  have F := Fr.add F (p9 t9)
  have F := Fr.add F (p10 t10)
  have F := Fr.add F (p11 t11)
  have F := Fr.add F (p13 t13)
  have H := H.pickN 8 1 [0, 1, 2, 3, 4, 5, 6, 7] [0]
  have F := F.tq [(0, pT g1 0), (4, iI 0), (5, iI 0), (6, pT g4 0), (8, pT g7 0), (10, pT g9 0), (7, iI 0)] rfl
  refine hK10 _ _ (Sx.seq fun K11 hK11 => Sp fun _ kk => ?_)
  iterate 2 (refine Av F ?_; intro A F)
  refine Nl kk (condF F rfl (wp_skip (hK11 _ _ (Sp fun _ kk => ?_))))
  iterate 3 (refine Av F ?_; intro A F)
  have H := H.pickN 8 1 [4, 5, 0, 1, 2, 3, 6, 7] [0]
  refine Zx F (Do if_99 F (cx80 H)) ?_
  rintro _ w ⟨rfl, H⟩ A F
  refine Nl kk (Sp fun _ kk => ?_)
  iterate 3 (refine Av F ?_; intro A F)
  refine Zv F (Ld 7 one_158 F H) fun A F => ?_
  refine Av F fun A F => ?_
  have H := H.pickN 8 1 [6, 0, 1, 2, 3, 4, 5, 7] [0]
  refine Zx F (Do if_100 F (cx82 (by omega) H)) ?_
  rintro _ w ⟨g13, c3, hbc3, rfl, H⟩ A F
  iterate 4 (refine Av F ?_; intro A F)
  refine Nl kk (Wr (ret2 F Tryz.results72 (res_tmp F rfl) (res_tmp F rfl) ?_))
  exact ⟨_, rfl, g13, c3, g9, g10, (by omega), rfl, H.pickN 8 1 [7, 0, 1, 2, 3, 4] [0]⟩
theorem cx84 (hbc1 : 1 ≤ c1) (H : Sx.Own w0 w (Bt g1 [pT g2 0] :: Bt g2 [pT g3 0, iI 1, iU 0] :: Bt g3 [sL g4 0 1 c1, iI 1] :: Bt g5 (L172 g6) :: Bt g6 L168 :: bs) (⟨true, sL g4 0 1 c1, 217, 2, 1, [iI 0, pT g5 0]⟩ :: rs) K) : Cq 44 #[pT g1 0, L154] w fun x w' => ∃ g9 c2 g10 g11 : Nat, 2 ≤ c2 ∧ x = .agg #[iI 1, iU 0, nS, nS, iI 0] ∧ Sx.Own w0 w' (Bt g1 [pT g2 0] :: Bt g2 [pT g3 0, iI 1, iU 0] :: Bt g3 [sL g9 0 2 c2, iI 2] :: Bt g5 (L185 g6) :: Bt g6 L168 :: Bt g10 (L172 g11) :: Bt g11 L183 :: bs) (⟨true, sL g9 0 2 c2, 217, 2, 2, [iI 0, pT g5 0, iI 1, pT g10 0]⟩ :: rs) K := by
 refine En Tryz.func44 Tryz.ntmps44 fun A F => ?_
 refine Sp fun _ kk => Zb F (d_box F H rfl rfl L155 rfl) fun g7 A w F H => ?_
 refine Zb F (d_alloc H rfl [iI 0, iU 0, nS, nS, iI 0] zero_68) fun g8 A w F H => ?_
 refine Nl kk (Sx.seq fun K2 hK2 => ?_)
 have F := F.tq [(0, pT g1 0), (3, pT g7 0), (4, pT g8 0)] rfl
 refine Dn F [some (pT g1 0), some (pT g1 0), some (pT g1 0), some (pT g2 0), some (pT g7 1), some (iI 0), some (.tuple #[iI 1, iI 0]), some (.tuple #[iI 1, iI 0]), some (iI 1), some (iI 0), some (iI 1), some (iI 0)] (fun L A w => ∃ g9 : Nat, ∃ c2 : Nat, ∃ g10 : Nat, ∃ g11 : Nat, (L 6 = true → 2 ≤ c2) ∧ Sx.Own w0 w ((L 6, g10, (L172 g11)) :: (L 6, g11, L183) :: Bt g8 [iI 0, iU 0, nS, nS, iI 0] :: Bt g7 L155 :: Bt g1 [pT g2 0] :: Bt g2 [pT g3 0, iI 1, iU 0] :: Bt g3 (cond (L 6) [sL g9 0 2 c2, iI 2] [sL g4 0 1 c1, iI 1]) :: Bt g5 (cond (L 6) (L185 g6) (L172 g6)) :: Bt g6 L168 :: bs) (⟨L 6, sL g9 0 2 c2, 217, 2, 2, [iI 0, pT g5 0, iI 1, pT g10 0]⟩ :: ⟨cond (L 6) false (true), sL g4 0 1 c1, 217, 2, 1, [iI 0, pT g5 0]⟩ :: rs) K) ⟨0, 0, 0, 0, (fun h => by cases h), H.drew.padG L186 [⟨false, sL 0 0 2 0, 217, 2, 2, [iI 0, pT g5 0, iI 1, pT 0 0]⟩] rfl rfl⟩ ?_ ?_
 ·refine ⟨?_, ?_, ?_, ?_, ?_, ?_, ?_, ?_, ?_, ?_, ?_, ?_, trivial⟩
  ·intro L A w up hun hd F ⟨g9, c2, g10, g11, qc2, H⟩
   have f1 : L 1 = false := up 1 0 rfl hun
   have f2 : L 2 = false := up 2 1 rfl f1
   have f3 : L 3 = false := up 3 2 rfl f2
   have f6 : L 6 = false := up 6 3 rfl f3
   have Hj := H; rw [f6] at Hj
   refine step_on rfl (d_move F (Or.inl rfl) rfl) ?_
   rintro xv w' ⟨hx, rfl⟩
   exact ⟨Cs hx, ⟨g9, c2, g10, g11, Nf f6, H⟩⟩
  ·intro L A w up hun hd F ⟨g9, c2, g10, g11, qc2, H⟩
   have f2 : L 2 = false := up 2 1 rfl hun
   have f3 : L 3 = false := up 3 2 rfl f2
   have f6 : L 6 = false := up 6 3 rfl f3
   have Hj := H; rw [f6] at Hj
   refine step_on rfl (d_nil F rfl rfl) ?_
   rintro xv w' ⟨hx, rfl⟩
   exact ⟨Cs hx, ⟨g9, c2, g10, g11, Nf f6, H⟩⟩
  ·intro L A w up hun hd F ⟨g9, c2, g10, g11, qc2, H⟩
   have f3 : L 3 = false := up 3 2 rfl hun
   have f6 : L 6 = false := up 6 3 rfl f3
   have Hj := H; rw [f6] at Hj
   refine step_on rfl (Fd F (fa_116_0.default.h _ _ _)) ?_
   rintro xv w' ⟨hx, rfl⟩
   exact ⟨Cs hx, ⟨g9, c2, g10, g11, Nf f6, H⟩⟩
  ·intro L A w up hun hd F ⟨g9, c2, g10, g11, qc2, H⟩
   have f6 : L 6 = false := up 6 3 rfl hun
   have Hj := H; rw [f6] at Hj
   refine step_on rfl (Ld 4 one_114 F Hj) ?_
   rintro xv w' ⟨hx, rfl⟩
   exact ⟨Cs hx, ⟨g9, c2, g10, g11, Nf f6, H⟩⟩
  ·intro L A w up hun hd F ⟨g9, c2, g10, g11, qc2, H⟩
   have f5 : L 5 = false := up 5 4 rfl hun
   have f6 : L 6 = false := up 6 5 rfl f5
   have Hj := H; rw [f6] at Hj
   refine step_on rfl (Fd F (fa_71_1.default.h _ _ _)) ?_
   rintro xv w' ⟨hx, rfl⟩
   exact ⟨Cs hx, ⟨g9, c2, g10, g11, Nf f6, H⟩⟩
  ·intro L A w up hun hd F ⟨g9, c2, g10, g11, qc2, H⟩
   have f6 : L 6 = false := up 6 5 rfl hun
   have Hj := H; rw [f6] at Hj
   refine step_on rfl (Ld 3 one_3 F Hj) ?_
   rintro xv w' ⟨hx, rfl⟩
   exact ⟨Cs hx, ⟨g9, c2, g10, g11, Nf f6, H⟩⟩
  ·intro L A w up hun hd F ⟨g9, c2, g10, g11, qc2, H⟩
   have f6 : L 6 = false := hun
   rw [f6] at H
   have H : Sx.Own w0 w ((false, g10, (L172 g11)) :: (false, g11, L183) :: Bt g8 [iI 0, iU 0, nS, nS, iI 0] :: Bt g7 L155 :: Bt g1 [pT g2 0] :: Bt g2 [pT g3 0, iI 1, iU 0] :: Bt g3 [sL g4 0 1 c1, iI 1] :: Bt g5 (L172 g6) :: Bt g6 L168 :: bs) (⟨false, sL g9 0 2 c2, 217, 2, 2, [iI 0, pT g5 0, iI 1, pT g10 0]⟩ :: ⟨true, sL g4 0 1 c1, 217, 2, 1, [iI 0, pT g5 0]⟩ :: rs) K := H
   have H := H.pickN 9 2 [5, 6, 7, 8, 0, 1, 2, 3, 4] [1]
   refine step_on rfl (Do if_72 F (cx83 (by omega) H)) ?_
   rintro xv w' ⟨g12, c3, g13, g14, hbc3, hx, H⟩
   have H := H.padG [] [⟨false, sL g4 0 1 c1, 217, 2, 1, [iI 0, pT g5 0]⟩] rfl rfl
   have H := H.pickN 11 2 [4, 5, 8, 9, 10, 0, 1, 2, 3] [1, 0]
   exact ⟨Cs hx, ⟨g12, c3, g13, g14, (fun _ => by omega), H⟩⟩
  ·intro L A w up hun hd F ⟨g9, c2, g10, g11, qc2, H⟩
   have t6 : L 6 = true := hd 6 rfl
   have Hj := H; rw [t6] at Hj
   have hbc2 := qc2 t6
   refine step_on rfl (d_move F (Or.inl rfl) rfl) ?_
   rintro xv w' ⟨hx, rfl⟩
   exact ⟨Cs hx, ⟨g9, c2, g10, g11, qc2, H⟩⟩
  ·intro L A w up hun hd F ⟨g9, c2, g10, g11, qc2, H⟩
   have t6 : L 6 = true := by
    cases hb : L 6 with
    | true => rfl
    | false =>
     have hb7 := up 7 6 rfl hb
     rw [hd 7 rfl] at hb7; cases hb7
   have Hj := H; rw [t6] at Hj
   have hbc2 := qc2 t6
   refine step_on rfl (d_extract (v := iI 1) F rfl rfl rfl) ?_
   rintro xv w' ⟨hx, rfl⟩
   exact ⟨Cs hx, ⟨g9, c2, g10, g11, qc2, H⟩⟩
  ·intro L A w up hun hd F ⟨g9, c2, g10, g11, qc2, H⟩
   have t6 : L 6 = true := by
    cases hb : L 6 with
    | true => rfl
    | false =>
     have hb7 := up 7 6 rfl hb
     rw [hd 7 rfl] at hb7; cases hb7
   have Hj := H; rw [t6] at Hj
   have hbc2 := qc2 t6
   refine step_on rfl (d_extract (v := iI 0) F rfl rfl rfl) ?_
   rintro xv w' ⟨hx, rfl⟩
   exact ⟨Cs hx, ⟨g9, c2, g10, g11, qc2, H⟩⟩
  ·intro L A w up hun hd F ⟨g9, c2, g10, g11, qc2, H⟩
   have t6 : L 6 = true := hd 6 rfl
   have Hj := H; rw [t6] at Hj
   have hbc2 := qc2 t6
   refine step_on rfl (d_move F (Or.inr rfl) rfl) ?_
   rintro xv w' ⟨hx, rfl⟩
   exact ⟨Cs hx, ⟨g9, c2, g10, g11, qc2, H⟩⟩
  ·intro L A w up hun hd F ⟨g9, c2, g10, g11, qc2, H⟩
   have t6 : L 6 = true := hd 6 rfl
   have Hj := H; rw [t6] at Hj
   have hbc2 := qc2 t6
   refine step_on rfl (d_move F (Or.inr rfl) rfl) ?_
   rintro xv w' ⟨hx, rfl⟩
   exact ⟨Cs hx, ⟨g9, c2, g10, g11, qc2, H⟩⟩
 ·intro L A w hL F ⟨g9, c2, g10, g11, qc2, H⟩
  have t6 : L 6 = true := hL 6 rfl
  rw [t6] at H
  have hbc2 := qc2 t6
  have H := H.pickN 9 2 [0, 1, 2, 3, 4, 5, 6, 7, 8] [0]
  have F := F.tq [(4, pT g8 0), (5, iI 1), (6, iI 0)] rfl
  refine hK2 _ _ (Sp fun _ kk => ?_)
  iterate 2 (refine Av F ?_; intro A F)
  refine Zv F (d_build (qs := #[(0, iI 1), (4, iI 0)]) (v := .agg #[iI 1, iU 0, nS, nS, iI 0]) F rfl rfl (by kernel_rfl)) fun A F => ?_
  refine Zs 2 [iI 1, iU 0, nS, nS, iI 0] sz_68 F H fun A w F H => ?_
  refine Nl kk (Wr (ret1 F Tryz.results44 (res_row (i := 2) (xs := [iI 1, iU 0, nS, nS, iI 0]) rw_68 F H rfl rfl rfl rfl) ?_))
  exact ⟨_, rfl, g9, c2, g10, g11, (by omega), rfl, H.pickN 9 1 [4, 5, 6, 7, 8, 0, 1] [0]⟩
end
section
open Sx
variable {w0 w : World} {bs : List Sx.Bx} {rs : List Sx.Rx} {K : Nat → Option Obj} {g1 g2 g3 g4 g5 g6 g7 g8 g9 g10 g11 g12 g13 g14 g15 g16 g17 g18 g19 g20 g21 g22 g23 g24 c1 c2 c3 c4 c5 c6 c7 c8 c9 : Nat} {v1 v2 v3 v4 v5 v6 v7 v8 v9 : Value} {n b : BitVec 64} {at' : BitVec 128} {kd lf : BitVec 8}
theorem cx85 (hbc1 : 1 ≤ c1) (H : Sx.Own w0 w (Bt g1 [pT g2 0] :: Bt g2 [pT g3 0, iI 1, iU 0] :: Bt g3 [sL g4 0 1 c1, iI 1] :: Bt g5 (L172 g6) :: Bt g6 L168 :: bs) (⟨true, sL g4 0 1 c1, 217, 2, 1, [iI 0, pT g5 0]⟩ :: rs) K) : Cq 19 #[pT g1 0, L154] w fun x w' => ∃ g9 c2 g10 g11 : Nat, 2 ≤ c2 ∧ x = .agg #[iI 1, iU 0, nS, nS, iI 0] ∧ Sx.Own w0 w' (Bt g1 [pT g2 0] :: Bt g2 [pT g3 0, iI 1, iU 0] :: Bt g3 [sL g9 0 2 c2, iI 2] :: Bt g5 (L185 g6) :: Bt g6 L168 :: Bt g10 (L172 g11) :: Bt g11 L183 :: bs) (⟨true, sL g9 0 2 c2, 217, 2, 2, [iI 0, pT g5 0, iI 1, pT g10 0]⟩ :: rs) K := by
 refine En Tryz.func19 Tryz.ntmps19 fun A F => ?_
 refine Sp fun _ kk => Zb F (d_box F H rfl rfl L155 rfl) fun g7 A w F H => ?_
 refine Zb F (d_alloc H rfl [iI 0, iU 0, nS, nS, iI 0] zero_68) fun g8 A w F H => ?_
 refine Nl kk (Sx.seq fun K2 hK2 => ask_map F H ?_)
 intro A w mr mo10 hmK hmo F H
 refine hK2 _ _ (Sp fun _ kk => ?_)
 iterate 3 (refine Av F ?_; intro A F)
 refine Zv F (d_lookup (kt := 3) (et := 117) (z := .nilFunc) (v := .func (.func 44) #[] #[]) (b := true) (by kernel_rfl) (by kernel_rfl) (fun _ => by kernel_rfl) F H rfl rfl rfl (if_pos rfl) hmo rfl) fun A F => ?_
 have H := H.unkeep1 hmK
 iterate 5 (refine Av F ?_; intro A F)
 refine Nl kk (Sx.seq fun K4 hK4 => wp_block (Sp fun _ kk => Av F fun A F => ?_))
 refine Zv F (d_un (v := bF) F rfl rfl rfl) fun A F => ?_
 refine Av F fun A F => ?_
 refine Nl kk (condF F rfl (Sp fun _ kk => Av F fun A F => ?_))
 have H := H.pickN 7 1 [2, 0, 1, 3, 4, 5, 6] [0]
 refine Zx F (Do if_53 F (cx64 H)) ?_
 rintro _ w ⟨rfl, H⟩ A F
 refine Av F fun A F => ?_
 refine su F (wanted_off rfl (guard_known (d := 24) (b := false) F rfl rfl) rfl) rfl (by decide) (fun A F => ?_)
 refine su F (wanted_off rfl (guard_known (d := 24) (b := false) F rfl rfl) rfl) rfl (by decide) (fun A F => ?_)
 refine su F (wanted_off rfl (guard_known (d := 24) (b := false) F rfl rfl) rfl) rfl (by decide) (fun A F => ?_)
 iterate 2 (refine Av F ?_; intro A F)
 refine su F (wanted_off rfl (guard_known (d := 29) (b := false) F rfl rfl) rfl) rfl (by decide) (fun A F => ?_)
 refine su F (wanted_off rfl (guard_known (d := 29) (b := false) F rfl rfl) rfl) rfl (by decide) (fun A F => ?_)
 refine su F (wanted_off rfl (guard_known (d := 29) (b := false) F rfl rfl) rfl) rfl (by decide) (fun A F => ?_)
 iterate 2 (refine Av F ?_; intro A F)
 refine Nl kk (condF F rfl (wp_skip (hK4 _ _ (Sp fun _ kk => ?_))))
 iterate 3 (refine Av F ?_; intro A F)
 have H := H.pickN 7 1 [0, 3, 4, 5, 6, 1, 2] [0]
 refine Zx F (d_callCO (fv := []) (vs := [pT g1 0, L154]) (cv := []) if_44 F rfl rfl rfl (cx84 (by omega) H)) ?_
 rintro _ w ⟨g9, c2, g10, g11, hbc2, rfl, H⟩ A F
 refine Zs 7 [iI 1, iU 0, nS, nS, iI 0] sz_68 F H fun A w F H => ?_
 refine Nl kk (Wr (ret1 F Tryz.results19 (res_row (i := 7) (xs := [iI 1, iU 0, nS, nS, iI 0]) rw_68 F H rfl rfl rfl rfl) ?_))
 exact ⟨_, rfl, g9, c2, g10, g11, (by omega), rfl, H.pickN 9 1 [0, 1, 2, 3, 4, 5, 6] [0]⟩
theorem cx86 (H : Sx.Own w0 w bs rs K) : Cr 152 #[.agg #[iI 1, pT g1 0], iI 0] w0 w (iI 1) bs rs K := by
 refine En Tryz.func152 Tryz.ntmps152 fun A F => ?_
 refine Sp fun _ kk => Zb F (d_box F H rfl rfl [iI 1, pT g1 0] rfl) fun g2 A w F H => ?_
 refine Av F fun A F => ?_
 refine Nl kk (Sp fun _ kk => ?_)
 iterate 3 (refine Av F ?_; intro A F)
 refine Zv F (d_max (r := 0) F rfl rfl rfl (by decide)) fun A F => ?_
 refine Zv F (d_min (r := 0) F rfl rfl rfl (by decide)) fun A F => ?_
 refine Zn (iI 1) F fun A F => ?_
 refine Av F fun A F => ?_
 refine Nl kk (Wr (ret1 F Tryz.results152 (res_tmp F rfl) ?_))
 exact ⟨_, rfl, rfl, H.pickN 1 0 [] []⟩
theorem cx87 (hbc1 : 2 ≤ c1) (H : Sx.Own w0 w (bs) (⟨true, sL g1 0 2 c1, 217, 2, 2, [iI 0, pT g2 0, iI 1, pT g3 0]⟩ :: rs) K) : Cr 151 #[sL g1 0 2 c1, iI 0, .func (.func 152) #[] #[]] w0 w (.tuple #[iI 0, bT]) (bs) (⟨true, sL g1 0 2 c1, 217, 2, 2, [iI 0, pT g2 0, iI 1, pT g3 0]⟩ :: rs) K := by
 refine En Tryz.func151 Tryz.ntmps151 fun A F => ?_
 refine Sp fun _ kk => ?_
 iterate 2 (refine Av F ?_; intro A F)
 refine Nl kk (Sp fun _ kk => Av F fun A F => ?_)
 refine Zv F (d_lenS el_213 F rfl rfl) fun A F => ?_
 refine Av F fun A F => ?_
 refine Nl kk (Sp fun _ kk => ?_)
 iterate 3 (refine Av F ?_; intro A F)
 refine Nl kk (Sx.seq fun K4 hK4 => wp_block (wp_loop_rounds 40 ?_))
 refine Rs ?_
 refine Sx.seq fun K5 hK5 => Sp fun _ kk => ?_
 iterate 3 (refine Av F ?_; intro A F)
 refine Nl kk (condT F rfl (wp_skip (hK5 _ _ (wp_block (Sp fun _ kk => ?_)))))
 iterate 2 (refine Av F ?_; intro A F)
 refine Zn (iI 2) F fun A F => ?_
 refine Zv F (d_conv (v := iU 2) F rfl rfl (by kernel_rfl)) fun A F => ?_
 refine Zn (iU 1) F fun A F => ?_
 refine Zv F (d_conv (v := iI 1) F rfl rfl (by kernel_rfl)) fun A F => ?_
 refine Av F fun A F => ?_
 refine Nl kk (Sp fun _ kk => ?_)
 iterate 3 (refine Av F ?_; intro A F)
 refine Zv F (d_ixZ (k := 1) (g := g1) (off := 0) (z := 2) el_213 F rfl rfl rfl rfl rfl (by omega)) fun A F => ?_
 refine Zv F (Lr 0 [iI 1, pT g3 0] rw_217 F (H.rowBox (i := 0) rfl)) fun A F => ?_
 refine Av F fun A F => ?_
 refine Zx F (d_callCO (fv := []) (vs := [.agg #[iI 1, pT g3 0], iI 0]) (cv := []) if_152 F rfl rfl rfl (cx86 H)) ?_
 rintro _ w ⟨rfl, H⟩ A F
 refine Av F fun A F => ?_
 refine Nl kk (condF F rfl (Sx.plain ?_))
 iterate 2 (refine Av F ?_; intro A F)
 refine Sx.nil (Rs ?_)
 refine Sx.seq fun K9 hK9 => Sp fun _ kk => ?_
 iterate 3 (refine Av F ?_; intro A F)
 refine Nl kk (condT F rfl (wp_skip (hK9 _ _ (wp_block (Sp fun _ kk => ?_)))))
 iterate 2 (refine Av F ?_; intro A F)
 refine Zn (iI 1) F fun A F => ?_
 refine Zv F (d_conv (v := iU 1) F rfl rfl (by kernel_rfl)) fun A F => ?_
 refine Zn (iU 0) F fun A F => ?_
 refine Zv F (d_conv (v := iI 0) F rfl rfl (by kernel_rfl)) fun A F => ?_
 refine Av F fun A F => ?_
 refine Nl kk (Sp fun _ kk => ?_)
 iterate 3 (refine Av F ?_; intro A F)
 refine Zv F (d_ixZ (k := 0) (g := g1) (off := 0) (z := 2) el_213 F rfl rfl rfl rfl rfl (by omega)) fun A F => ?_
 refine Zv F (Lr 0 [iI 0, pT g2 0] rw_217 F (H.rowBox (i := 0) rfl)) fun A F => ?_
 refine Av F fun A F => ?_
 refine Zx F (d_callCO (fv := []) (vs := [.agg #[iI 0, pT g2 0], iI 0]) (cv := []) if_152 F rfl rfl rfl (cx65 H)) ?_
 rintro _ w ⟨rfl, H⟩ A F
 refine Av F fun A F => ?_
 refine Nl kk (condF F rfl (Sx.plain ?_))
 iterate 2 (refine Av F ?_; intro A F)
 refine Sx.nil (Rs ?_)
 refine Sx.seq fun K13 hK13 => Sp fun _ kk => ?_
 iterate 3 (refine Av F ?_; intro A F)
 refine Nl kk (condF F rfl (wp_exit ?_))
 try dsimp only [Exit.then, Exit.jump, Exit.noGoto]
 refine exit_here (hK4 _ _ (Sp fun _ kk => ?_))
 iterate 8 (refine Av F ?_; intro A F)
 refine Zv F (d_ixZ (k := 0) (g := g1) (off := 0) (z := 2) el_213 F rfl rfl rfl rfl rfl (by omega)) fun A F => ?_
 refine Zv F (Lr 0 [iI 0, pT g2 0] rw_217 F (H.rowBox (i := 0) rfl)) fun A F => ?_
 refine Av F fun A F => ?_
 refine Zx F (d_callCO (fv := []) (vs := [.agg #[iI 0, pT g2 0], iI 0]) (cv := []) if_152 F rfl rfl rfl (cx65 H)) ?_
 rintro _ w ⟨rfl, H⟩ A F
 iterate 4 (refine Av F ?_; intro A F)
 refine Nl kk (Wr (ret2 F Tryz.results151 (res_tmp F rfl) (res_tmp F rfl) ?_))
 exact ⟨_, rfl, rfl, H.pickN 0 1 [] [0]⟩
theorem cx88 (hbc1 : 2 ≤ c1) (H : Sx.Own w0 w (Bt g1 [sL g2 0 2 c1, iI 2] :: bs) (⟨true, sL g2 0 2 c1, 217, 2, 2, [iI 0, pT g3 0, iI 1, pT g4 0]⟩ :: rs) K) : Cr 123 #[pT g1 0, iI 0] w0 w (.tuple #[iI 0, bT]) (Bt g1 [sL g2 0 2 c1, iI 2] :: bs) (⟨true, sL g2 0 2 c1, 217, 2, 2, [iI 0, pT g3 0, iI 1, pT g4 0]⟩ :: rs) K := by
 refine En Tryz.func123 Tryz.ntmps123 fun A F => ?_
 refine Sp fun _ kk => ?_
 iterate 2 (refine Av F ?_; intro A F)
 refine Nl kk (Sp fun _ kk => ?_)
 iterate 5 (refine Av F ?_; intro A F)
 refine Zx F (Do if_151 F (cx87 (by omega) H)) ?_
 rintro _ w ⟨rfl, H⟩ A F
 iterate 4 (refine Av F ?_; intro A F)
 refine Nl kk (Wr (ret2 F Tryz.results123 (res_tmp F rfl) (res_tmp F rfl) ?_))
 exact ⟨_, rfl, rfl, H.pickN 1 1 [0] [0]⟩
theorem cx89 (hbc1 : 2 ≤ c1) (H : Sx.Own w0 w (Bt g1 [sL g2 0 2 c1, iI 2] :: bs) (⟨true, sL g2 0 2 c1, 217, 2, 2, [iI 0, pT g3 0, iI 1, pT g4 0]⟩ :: rs) K) : Cr 83 #[pT g1 0, iI 0] w0 w (.tuple #[pT g3 0, bT]) (Bt g1 [sL g2 0 2 c1, iI 2] :: bs) (⟨true, sL g2 0 2 c1, 217, 2, 2, [iI 0, pT g3 0, iI 1, pT g4 0]⟩ :: rs) K := by
 refine En Tryz.func83 Tryz.ntmps83 fun A F => ?_
 refine Sp fun _ kk => ?_
 iterate 2 (refine Av F ?_; intro A F)
 refine Nl kk (Sp fun _ kk => ?_)
 iterate 2 (refine Av F ?_; intro A F)
 refine Zx F (Do if_123 F (cx88 (by omega) H)) ?_
 rintro _ w ⟨rfl, H⟩ A F
 iterate 5 (refine Av F ?_; intro A F)
 refine Nl kk (Sx.seq fun K3 hK3 => Sp fun _ kk => Av F fun A F => ?_)
 refine Zv F (d_un (v := bF) F rfl rfl rfl) fun A F => ?_
 refine Nl kk (condF F rfl (wp_skip (hK3 _ _ (Sp fun _ kk => ?_))))
 iterate 5 (refine Av F ?_; intro A F)
 refine Zv F (d_ixZ (k := 0) (g := g2) (off := 0) (z := 2) el_213 F rfl rfl rfl rfl rfl (by omega)) fun A F => ?_
 refine Av F fun A F => ?_
 refine Zv F (Ld 0 one_161 F (H.rowBox (i := 0) rfl)) fun A F => ?_
 iterate 2 (refine Av F ?_; intro A F)
 refine Nl kk (Wr (ret2 F Tryz.results83 (res_tmp F rfl) (res_tmp F rfl) ?_))
 exact ⟨_, rfl, rfl, H.pickN 1 1 [0] [0]⟩
theorem cx90 (hbc1 : 2 ≤ c1) (H : Sx.Own w0 w (Bt g1 [pT g2 0, iI 1, iU 0] :: Bt g2 [sL g3 0 2 c1, iI 2] :: bs) (⟨true, sL g3 0 2 c1, 217, 2, 2, [iI 0, pT g4 0, iI 1, pT g5 0]⟩ :: rs) K) : Cr 95 #[pT g1 0, iI 0] w0 w (.tuple #[pT g4 0, iI 0]) (Bt g1 [pT g2 0, iI 1, iU 0] :: Bt g2 [sL g3 0 2 c1, iI 2] :: bs) (⟨true, sL g3 0 2 c1, 217, 2, 2, [iI 0, pT g4 0, iI 1, pT g5 0]⟩ :: rs) K := by
 refine En Tryz.func95 Tryz.ntmps95 fun A F => ?_
 refine Sp fun _ kk => ?_
 iterate 2 (refine Av F ?_; intro A F)
 refine Nl kk (Sp fun _ kk => ?_)
 iterate 5 (refine Av F ?_; intro A F)
 have H := H.pickN 2 1 [1, 0] [0]
 refine Zx F (Do if_83 F (cx89 (by omega) H)) ?_
 rintro _ w ⟨rfl, H⟩ A F
 iterate 5 (refine Av F ?_; intro A F)
 refine Nl kk (Sx.seq fun K3 hK3 => Sp fun _ kk => Av F fun A F => ?_)
 refine Zv F (d_un (v := bF) F rfl rfl rfl) fun A F => ?_
 refine Nl kk (condF F rfl (wp_skip (hK3 _ _ (Sp fun _ kk => ?_))))
 iterate 3 (refine Av F ?_; intro A F)
 refine Nl kk (Wr (ret2 F Tryz.results95 (res_tmp F rfl) (res_tmp F rfl) ?_))
 exact ⟨_, rfl, rfl, H.pickN 2 1 [1, 0] [0]⟩
theorem cx91 (H : Sx.Own w0 w (Bt g1 (L185 g2) :: Bt g2 L168 :: bs) rs K) : Cr 84 #[pT g1 0] w0 w L178 (Bt g1 (L185 g2) :: Bt g2 L168 :: bs) rs K := by
 refine En Tryz.func84 Tryz.ntmps84 fun A F => ?_
 refine Sp fun _ kk => Zb F (d_alloc H rfl [iU 0, iU 0, iU 0, iU 0] zero_79) fun g3 A w F H => ?_
 refine Nl kk (Sx.seq fun K2 hK2 => ?_)
 have F := F.tq [(0, pT g1 0), (2, pT g3 0)] rfl
 refine Dn F [some (pT g1 0), some (pT g1 0), some (pT g1 0), some (pT g2 0), some (.agg #[iU 0, iU 0]), some (pT g1 0), some (pT g1 0), some (pT g1 1), some (L177), some (L178), none] (fun L A w => Sx.Own w0 w (Bt g3 (cond (L 10) L181 [iU 0, iU 0, iU 0, iU 0]) :: Bt g1 (L185 g2) :: Bt g2 L168 :: bs) rs K) (H.drew.padG [] [] rfl rfl) ?_ ?_
 ·refine ⟨?_, ?_, ?_, ?_, ?_, ?_, ?_, ?_, ?_, ?_, ?_, trivial⟩
  ·exact Sa
  ·exact Sa
  ·exact Sa
  ·exact SV (fun _ _ _ F H => Ld 1 one_220 F H)
  ·intro L A w up hun hd F H
   have f10 : L 10 = false := up 10 4 rfl hun
   rw [f10] at H
   have H : Sx.Own w0 w (Bt g3 [iU 0, iU 0, iU 0, iU 0] :: Bt g1 (L185 g2) :: Bt g2 L168 :: bs) rs K := H
   have H := H.pickN 3 0 [2, 0, 1] []
   refine step_on rfl (Do if_124 F (cx72 H)) ?_
   rintro xv w' ⟨hx, H⟩
   have H := H.pickN 3 0 [1, 2, 0] []
   exact ⟨Cs hx, (by show Sx.Own _ _ _ _ _; rw [show Inv.add L 4 10 = false from f10]; exact H)⟩
  ·exact Sa
  ·exact Sa
  ·exact Sa
  ·exact SV (fun _ _ _ F H => Lr 1 [iU 0, iU 4611686018427387904] rw_26 F H)
  ·exact SV (fun _ _ _ F _ => d_build (qs := #[(0, .agg #[iU 0, iU 0]), (1, L177)]) (v := L178) F rfl rfl (by kernel_rfl))
  ·intro L A w up hun hd F H
   have f10 : L 10 = false := hun
   rw [f10] at H
   refine step_on rfl (d_store (i := 0) (xs := L181) (us := L181) sz_79 F H rfl rfl rfl rfl rfl rfl rfl (Nat.le_of_ble_eq_true rfl) rfl) ?_
   intro xv w' H
   exact ⟨Cn, H⟩
 ·intro L A w hL F H
  have t10 : L 10 = true := hL 10 rfl
  rw [t10] at H
  have H := H.pickN 3 0 [0, 1, 2] []
  have F := F.tq [(2, pT g3 0)] rfl
  refine hK2 _ _ (Wr (ret1 F Tryz.results84 (res_row (i := 0) (xs := L181) rw_79 F H rfl rfl rfl rfl) ?_))
  exact ⟨_, rfl, rfl, H.pickN 3 0 [1, 2] []⟩
theorem cx92 (H : Sx.Own w0 w bs rs K) : Cr 119 #[L178] w0 w bT bs rs K := by
 refine En Tryz.func119 Tryz.ntmps119 fun A F => ?_
 refine Sp fun _ kk => Zb F (d_box F H rfl rfl L181 rfl) fun g1 A w F H => ?_
 refine Av F fun A F => ?_
 refine Nl kk (Sp fun _ kk => ?_)
 iterate 4 (refine Av F ?_; intro A F)
 refine Zw F (Dc (v := iI (-1)) if_16 F H (Calls.val (v := iI (Wd.cmp 0#128 4611686018427387904#128)) (wcmp_c 0#128 4611686018427387904#128 _) rfl (by kernel_rfl))) fun A w F H => ?_
 iterate 2 (refine Av F ?_; intro A F)
 refine Nl kk (Wr (ret1 F Tryz.results119 (res_tmp F rfl) ?_))
 exact ⟨_, rfl, rfl, H.pickN 1 0 [] []⟩
theorem cx93 (H : Sx.Own w0 w bs rs K) : Cr 135 #[L178] w0 w L177 bs rs K := by
 refine En Tryz.func135 Tryz.ntmps135 fun A F => ?_
 refine Sp fun _ kk => Zb F (d_box F H rfl rfl L181 rfl) fun g1 A w F H => ?_
 refine Zb F (d_alloc H rfl [iU 0, iU 0] zero_26) fun g2 A w F H => ?_
 refine Nl kk (Sx.seq fun K2 hK2 => Sp fun _ kk => Av F fun A F => ?_)
 refine Zx F (Do if_119 F (cx92 H)) ?_
 rintro _ w ⟨rfl, H⟩ A F
 refine Zv F (d_un (v := bF) F rfl rfl rfl) fun A F => ?_
 refine Nl kk (condF F rfl (wp_skip (hK2 _ _ (Sp fun _ kk => ?_))))
 iterate 4 (refine Av F ?_; intro A F)
 refine Zw F (Dc (v := L182) if_155 F H (Calls.val (v := .tuple #[.agg #[uH (4611686018427387904#128 - 0#128), uL (4611686018427387904#128 - 0#128)], .bool (Wd.less 4611686018427387904#128 0#128)]) (wsub_c 4611686018427387904#128 0#128 _) rfl (by kernel_rfl))) fun A w F H => ?_
 iterate 3 (refine Av F ?_; intro A F)
 refine Zb F (d_alloc H rfl [iU 0, iU 0] zero_26) fun g3 A w F H => ?_
 refine Zs 0 [iU 0, iU 4611686018427387904] sz_26 F H fun A w F H => ?_
 refine Av F fun A F => ?_
 refine Nl kk (Sp fun _ kk => Av F fun A F => ?_)
 refine Zs 1 [iU 0, iU 4611686018427387904] sz_26 F H fun A w F H => ?_
 refine Nl kk (Wr (ret1 F Tryz.results135 (res_row (i := 1) (xs := [iU 0, iU 4611686018427387904]) rw_26 F H rfl rfl rfl rfl) ?_))
 exact ⟨_, rfl, rfl, H.pickN 3 0 [] []⟩
theorem cx94 (H : Sx.Own w0 w (Bt g1 (L185 g2) :: Bt g2 L168 :: bs) rs K) : Cr 158 #[pT g1 0] w0 w L177 (Bt g1 (L185 g2) :: Bt g2 L168 :: bs) rs K := by
 refine En Tryz.func158 Tryz.ntmps158 fun A F => ?_
 refine Sp fun _ kk => Zb F (d_alloc H rfl [iU 0, iU 0] zero_26) fun g3 A w F H => ?_
 refine Nl kk (Sp fun _ kk => Av F fun A F => ?_)
 have H := H.pickN 3 0 [1, 2, 0] []
 refine Zx F (Do if_84 F (cx91 H)) ?_
 rintro _ w ⟨rfl, H⟩ A F
 refine Zx F (Do if_135 F (cx93 H)) ?_
 rintro _ w ⟨rfl, H⟩ A F
 refine Zs 2 [iU 0, iU 4611686018427387904] sz_26 F H fun A w F H => ?_
 refine Nl kk (Wr (ret1 F Tryz.results158 (res_row (i := 2) (xs := [iU 0, iU 4611686018427387904]) rw_26 F H rfl rfl rfl rfl) ?_))
 exact ⟨_, rfl, rfl, H.pickN 3 0 [0, 1] []⟩
theorem cx95 (H : Sx.Own w0 w (Bt g1 (L185 g2) :: Bt g2 L168 :: bs) rs K) : Cr 141 #[pT g1 0, .agg #[iU 0, iU 1]] w0 w bT (Bt g1 (L185 g2) :: Bt g2 L168 :: bs) rs K := by
 refine En Tryz.func141 Tryz.ntmps141 fun A F => ?_
 refine Sp fun _ kk => Zb F (d_box F H rfl rfl [iU 0, iU 1] rfl) fun g3 A w F H => ?_
 refine Av F fun A F => ?_
 refine Nl kk (Sx.seq fun K2 hK2 => ?_)
 have F := F.tq [(0, pT g1 0), (3, pT g3 0)] rfl
 refine Dn F [some (.agg #[iU 0, iU 1]), some (pT g1 0), some (L177), some (iI (-1)), some (bT), some (bT)] (fun L A w => Sx.Own w0 w (Bt g3 [iU 0, iU 1] :: Bt g1 (L185 g2) :: Bt g2 L168 :: bs) rs K) (H.drew.padG [] [] rfl rfl) ?_ ?_
 ·refine ⟨?_, ?_, ?_, ?_, ?_, ?_, trivial⟩
  ·exact SV (fun _ _ _ F H => Lr 0 [iU 0, iU 1] rw_26 F H)
  ·exact Sa
  ·intro L A w up hun hd F H
   have H : Sx.Own w0 w (Bt g3 [iU 0, iU 1] :: Bt g1 (L185 g2) :: Bt g2 L168 :: bs) rs K := H
   have H := H.pickN 3 0 [1, 2, 0] []
   refine step_on rfl (Do if_158 F (cx94 H)) ?_
   rintro xv w' ⟨hx, H⟩
   have H := H.pickN 3 0 [2, 0, 1] []
   exact ⟨Cs hx, H⟩
  ·intro L A w up hun hd F H
   refine step_on rfl (Dc (v := iI (-1)) if_16 F H (Calls.val (v := iI (Wd.cmp 1#128 4611686018427387904#128)) (wcmp_c 1#128 4611686018427387904#128 _) rfl (by kernel_rfl))) ?_
   rintro xv w' ⟨hx, H⟩
   exact ⟨Cs hx, H⟩
  ·exact Sa
  ·exact Sa
 ·intro L A w hL F H
  have H := H.pickN 3 0 [0, 1, 2] []
  have F := F.tq [(4, bT)] rfl
  refine hK2 _ _ (Wr (ret1 F Tryz.results141 (res_tmp F rfl) ?_))
  exact ⟨_, rfl, rfl, H.pickN 3 0 [1, 2] []⟩
theorem cx96 (H : Sx.Own w0 w (Bt g1 L168 :: bs) rs K) : Cr 159 #[pT g1 0] w0 w L165 (Bt g1 L168 :: bs) rs K := by
 refine En Tryz.func159 Tryz.ntmps159 fun A F => ?_
 refine Sp fun _ kk => Zb F (d_alloc H rfl [iU 0, iU 0] zero_26) fun g2 A w F H => ?_
 refine Nl kk (Sx.seq fun K2 hK2 => ?_)
 have F := F.tq [(0, pT g1 0), (2, pT g2 0)] rfl
 refine Dn F [some (pT g1 0), some (pT g1 0), some (pT g1 0), some (iI 1), some (L165), some (pT g1 0), some (pT g1 0), some (pT g1 2), some (.agg #[iU 0, iU 0]), some (L174), some (L174), some (L165), some (bF), none, none, some (bF)] (fun L A w => ∃ g3 : Nat, (L 13 = true → A.eval (.tmp 3) = pT g3 0) ∧ Sx.Own w0 w ((L 13, g3, (cond (L 14) [iU 0, iU 9223372036854775808] [iU 0, iU 0])) :: Bt g2 [iU 0, iU 0] :: Bt g1 L168 :: bs) rs K) ⟨0, (fun h => by cases h), H.drew.padG [(false, 0, [iU 0, iU 0])] [] rfl rfl⟩ ?_ ?_
 ·refine ⟨?_, ?_, ?_, ?_, ?_, ?_, ?_, ?_, ?_, ?_, ?_, ?_, ?_, ?_, ?_, ?_, trivial⟩
  ·exact Sa (hS := (fun _ _ _ _ ⟨g3, p13, H⟩ => ⟨g3, Pk p13, H⟩))
  ·exact Sa (hS := (fun _ _ _ _ ⟨g3, p13, H⟩ => ⟨g3, Pk p13, H⟩))
  ·exact Sa (hS := (fun _ _ _ _ ⟨g3, p13, H⟩ => ⟨g3, Pk p13, H⟩))
  ·exact SV (fun _ _ _ F ⟨g3, p13, H⟩ => Ld 2 one_3 F H) (fun _ _ _ _ ⟨g3, p13, H⟩ => ⟨g3, Pk p13, H⟩)
  ·intro L A w up hun hd F ⟨g3, p13, H⟩
   have f14 : L 14 = false := up 14 4 rfl hun
   rw [f14] at H
   refine step_on rfl (Dc (v := L165) if_17 F H (Calls.val (v := L66) (glimit1_c _) rfl (by kernel_rfl))) ?_
   rintro xv w' ⟨hx, H⟩
   exact ⟨Cs hx, ⟨g3, Pk p13, (by show Sx.Own _ _ _ _ _; rw [show Inv.add L 4 14 = false from f14]; exact H)⟩⟩
  ·exact Sa (hS := (fun _ _ _ _ ⟨g3, p13, H⟩ => ⟨g3, Pk p13, H⟩))
  ·exact Sa (hS := (fun _ _ _ _ ⟨g3, p13, H⟩ => ⟨g3, Pk p13, H⟩))
  ·exact Sa (hS := (fun _ _ _ _ ⟨g3, p13, H⟩ => ⟨g3, Pk p13, H⟩))
  ·exact SV (fun _ _ _ F ⟨g3, p13, H⟩ => Lr 2 [iU 0, iU 0] rw_26 F H) (fun _ _ _ _ ⟨g3, p13, H⟩ => ⟨g3, Pk p13, H⟩)
  ·intro L A w up hun hd F ⟨g3, p13, H⟩
   have f14 : L 14 = false := up 14 9 rfl hun
   rw [f14] at H
   refine step_on rfl (Dc (v := L174) if_155 F H (Calls.val (v := L176) (wsub_c 9223372036854775808#128 0#128 _) rfl (by kernel_rfl))) ?_
   rintro xv w' ⟨hx, H⟩
   exact ⟨Cs hx, ⟨g3, Pk p13, (by show Sx.Own _ _ _ _ _; rw [show Inv.add L 9 14 = false from f14]; exact H)⟩⟩
  ·exact Sa (hS := (fun _ _ _ _ ⟨g3, p13, H⟩ => ⟨g3, Pk p13, H⟩))
  ·exact Sa (hS := (fun _ _ _ _ ⟨g3, p13, H⟩ => ⟨g3, Pk p13, H⟩))
  ·exact Sa (hS := (fun _ _ _ _ ⟨g3, p13, H⟩ => ⟨g3, Pk p13, H⟩))
  ·intro L A w up hun hd F ⟨g3, p13, H⟩
   have f13 : L 13 = false := hun
   have f14 : L 14 = false := up 14 13 rfl hun
   rw [f13, f14] at H
   refine step_on rfl (d_alloc H rfl [iU 0, iU 0] zero_26) ?_
   rintro xv w' ⟨g4, hx, H⟩
   have H := H.pickN 4 0 [0, 2, 3] []
   exact ⟨Cn, ⟨g4, (fun _ => (Sx.put_same F (by decide) _).trans hx), (by show Sx.Own _ _ _ _ _; rw [show Inv.add L 13 14 = false from f14]; exact H)⟩⟩
  ·intro L A w up hun hd F ⟨g3, p13, H⟩
   have t13 : L 13 = true := hd 13 rfl
   have f14 : L 14 = false := hun
   rw [t13, f14] at H
   have F := Fr.add F (p13 t13)
   refine step_on rfl (d_store (i := 0) (xs := [iU 0, iU 9223372036854775808]) (us := [iU 0, iU 9223372036854775808]) sz_26 F H rfl rfl rfl rfl rfl rfl rfl (Nat.le_of_ble_eq_true rfl) rfl) ?_
   intro xv w' H
   exact ⟨Cn, ⟨g3, p13, (by show Sx.Own _ _ _ _ _; rw [show Inv.add L 14 13 = true from t13]; exact H)⟩⟩
  ·intro L A w up hun hd F ⟨g3, p13, H⟩
   have t13 : L 13 = true := hd 13 rfl
   have t14 : L 14 = true := hd 14 rfl
   have Hj := H; rw [t13, t14] at Hj
   have F := Fr.add F (p13 t13)
   refine step_on rfl (d_move F (Or.inr rfl) rfl) ?_
   rintro xv w' ⟨hx, rfl⟩
   exact ⟨Cs hx, ⟨g3, Pk p13, H⟩⟩
 ·intro L A w hL F ⟨g3, p13, H⟩
  have t13 : L 13 = true := hL 13 rfl
  have t14 : L 14 = true := hL 14 rfl
  rw [t13, t14] at H
  have F := Fr.add F (p13 t13)
  have H := H.pickN 3 0 [0, 1, 2] []
  have F := F.tq [(2, pT g2 0), (3, pT g3 0)] rfl
  refine hK2 _ _ (Sp fun _ kk => Av F fun A F => ?_)
  refine Zs 1 [iU 0, iU 9223372036854775808] sz_26 F H fun A w F H => ?_
  refine Nl kk (Wr (ret1 F Tryz.results159 (res_row (i := 1) (xs := [iU 0, iU 9223372036854775808]) rw_26 F H rfl rfl rfl rfl) ?_))
  exact ⟨_, rfl, rfl, H.pickN 3 0 [2] []⟩
abbrev L187 (x0 : Nat) : List Value := [iI 1, iU 0, iU 0, iU 0, iU 16294208416658607535, iU 7960286522194355700, iU 487617019471545679, iU 17909611376780542444, iU 1961750202426094747, iU 6038094601263162090, iU 3207296026000306913, iU 14232521865600346940, sL x0 4 8 8, iI 1, iU 17418742259747381416, iU 0, iU 0, iU 0, iU 0, iU 0, iU 0, iU 0, iU 0, iU 0, iU 0, iW 0, iW 0, bF]
abbrev L188 : Value := .agg #[iI 1, iU 17418742259747381416, iU 0, iU 0, iU 0, iU 0, iU 0, iU 0, iU 0, iU 0, iU 0, iU 0, iW 0, iW 0, bF]
abbrev L189 : List Value := [iU 16294208416658607535, iU 7960286522194355700, iU 487617019471545679, iU 17909611376780542444, iU 1961750202426094747, iU 6038094601263162090, iU 3207296026000306913, iU 14232521865600346940]
abbrev L190 : List Value := [iI 1, iU 17418742259747381416, iU 0, iU 0, iU 0, iU 0, iU 0, iU 0, iU 0, iU 0, iU 0, iU 0, iW 0, iW 0, bF]
abbrev L191 : List Value := [iI 1, iU 0, iU 0, iU 0, iU 16294208416658607535, iU 7960286522194355700, iU 487617019471545679, iU 17909611376780542444, iU 1961750202426094747, iU 6038094601263162090, iU 3207296026000306913, iU 14232521865600346940, nS, iI 1, iU 0, iU 0, iU 0, iU 0, iU 0, iU 0, iU 0, iU 0, iU 0, iU 0, iU 0, iW 0, iW 0, bF]
abbrev L192 (x0 : Nat) : List Value := [iI 1, iU 0, iU 0, iU 0, iU 16294208416658607535, iU 7960286522194355700, iU 487617019471545679, iU 17909611376780542444, iU 1961750202426094747, iU 6038094601263162090, iU 3207296026000306913, iU 14232521865600346940, sL x0 4 8 8, iI 1, iU 0, iU 0, iU 0, iU 0, iU 0, iU 0, iU 0, iU 0, iU 0, iU 0, iU 0, iW 0, iW 0, bF]
theorem cx97 (H : Sx.Own w0 w (Bt g1 L168 :: bs) rs K) : Cr 162 #[pT g1 0] w0 w (.tuple #[]) (Bt g1 (L187 g1) :: bs) rs K := by
 refine En Tryz.func162 Tryz.ntmps162 fun A F => ?_
 refine Sp fun _ kk => Av F fun A F => ?_
 refine Nl kk (Sx.seq fun K2 hK2 => Sp fun _ kk => Av F fun A F => ?_)
 refine Zx F (Do if_159 F (cx96 H)) ?_
 rintro _ w ⟨rfl, H⟩ A F
 refine Zb F (d_alloc H rfl [iU 0, iU 0] zero_26) fun g2 A w F H => ?_
 refine Zs 0 [iU 0, iU 9223372036854775808] sz_26 F H fun A w F H => ?_
 refine Nl kk (Sx.seq fun K4 hK4 => ?_)
 have F := F.tq [(0, pT g1 0), (2, iI 8), (3, pT g2 0)] rfl
 refine Dn F [some (L165), some (.agg #[iU 0, iU 8]), some (iI 1), some (bF)] (fun L A w => Sx.Own w0 w (Bt g2 [iU 0, iU 9223372036854775808] :: Bt g1 L168 :: bs) rs K) (H.drew.padG [] [] rfl rfl) ?_ ?_
 ·refine ⟨?_, ?_, ?_, ?_, trivial⟩
  ·exact SV (fun _ _ _ F H => Lr 0 [iU 0, iU 9223372036854775808] rw_26 F H)
  ·intro L A w up hun hd F H
   refine step_on rfl (d_call (vs := [iU 8]) (v := .agg #[iU 0, iU 8]) if_15 F H rfl rfl (Calls.val (v := L100) (Calls.val (wofV_c 8#64 _) (by kernel_rfl) (by kernel_rfl)) rfl (by kernel_rfl))) ?_
   rintro xv w' ⟨hx, H⟩
   exact ⟨Cs hx, H⟩
  ·intro L A w up hun hd F H
   refine step_on rfl (Dc (v := iI 1) if_16 F H (Calls.val (v := iI (Wd.cmp 9223372036854775808#128 8#128)) (wcmp_c 9223372036854775808#128 8#128 _) rfl (by kernel_rfl))) ?_
   rintro xv w' ⟨hx, H⟩
   exact ⟨Cs hx, H⟩
  ·exact Sa
 ·intro L A w hL F H
  have H := H.pickN 2 0 [0, 1] []
  have F := F.tq [(0, pT g1 0), (2, iI 8), (3, pT g2 0), (13, bF)] rfl
  refine hK4 _ _ (condF F rfl (wp_skip (hK2 _ _ (Sp fun _ kk => ?_))))
  iterate 5 (refine Av F ?_; intro A F)
  refine Zr (mk := fun v => .tuple #[v, L188, iI 0]) F (d_callR (vs := [L169, iI 8]) (mk := fun v => .tuple #[v, L188, iI 0]) if_55 F H rfl rfl (Bd.rval (mk' := fun v => .tuple #[v, L188, iI 0]) (gwords1_c 0#64 8 (by decide) _) (fun _ => by kernel_rfl))) fun v1 A w F H => ?_
  have H := H.xs (i := 0) (ys := L189) rfl (by kernel_rfl)
  obtain ⟨g3, c1, rfl, hbc1, hdc1⟩ := H.open (i := 0) rfl (by decide)
  iterate 4 (refine Av F ?_; intro A F)
  refine Zb F (d_alloc H rfl L79 zero_35) fun g4 A w F H => ?_
  refine Av F fun A F => ?_
  refine Zs 0 L190 sz_35 F H fun A w F H => ?_
  refine Av F fun A F => ?_
  refine Nl kk (Sp fun _ kk => ?_)
  iterate 3 (refine Av F ?_; intro A F)
  refine Zv F (d_sliceG (v := sL g1 4 8 8) (lv := none) (hv := none) (mv := none) F rfl rfl rfl rfl rfl (by kernel_rfl)) fun A F => ?_
  refine Av F fun A F => ?_
  refine Zx F (d_copyB (i := 2) (cs := L189) (us := L191) (m := 8) (el_65).1 (by kernel_rfl) F H rfl rfl rfl rfl (by decide) (fun j u hu => Sx.box_part (news := L189) ((H.rowBox (i := 0) rfl).box 0 g3 _ rfl).1 rfl j u hu) rfl rfl (Nat.le_of_ble_eq_true rfl) rfl) ?_
  rintro _ w ⟨rfl, H⟩ A F
  have H : Sx.Own w0 w (Bt g4 L190 :: Bt g2 [iU 0, iU 9223372036854775808] :: Bt g1 L191 :: bs) (⟨true, sL g3 0 8 c1, 22, 1, 8, L189⟩ :: rs) K := H
  refine Av F fun A F => ?_
  refine Nl kk ?_
  have F := F.tq [(0, pT g1 0), (5, pT g4 0), (7, iI 8)] rfl
  have H := H.pickN 3 1 [0, 2] []
  refine Dn F [some (pT g1 0), some (pT g1 0), some (pT g1 0), some (pT g1 0), some (pT g1 4), some (iI 8), some (iI 8), some (sL g1 4 8 8), some (L188), some (pT g1 0), some (pT g1 12), none, some (pT g1 0), some (pT g1 13), none] (fun L A w => Sx.Own w0 w (Bt g4 L190 :: Bt g1 (cond (L 14) (L187 g1) (cond (L 11) (L192 g1) L191)) :: bs) rs K) (H.drew.padG [] [] rfl rfl) ?_ ?_
  ·refine ⟨?_, ?_, ?_, ?_, ?_, ?_, ?_, ?_, ?_, ?_, ?_, ?_, ?_, ?_, ?_, trivial⟩
   ·exact Sa
   ·exact Sa
   ·exact Sa
   ·exact Sa
   ·exact Sa
   ·exact Sa
   ·exact Sa
   ·exact SV (fun _ _ _ F _ => d_sliceG (v := sL g1 4 8 8) (lv := none) (hv := some (iI 8)) (mv := some (iI 8)) F rfl rfl rfl rfl rfl (by kernel_rfl))
   ·exact SV (fun _ _ _ F H => Lr 0 L190 rw_35 F H)
   ·exact Sa
   ·exact Sa
   ·intro L A w up hun hd F H
    have f11 : L 11 = false := hun
    have f14 : L 14 = false := up 14 11 rfl hun
    rw [f11, f14] at H
    refine step_on rfl (d_store (i := 1) (xs := [sL g1 4 8 8]) (us := (L192 g1)) sz_65 F H rfl rfl rfl rfl rfl rfl rfl (Nat.le_of_ble_eq_true rfl) rfl) ?_
    intro xv w' H
    exact ⟨Cn, (by show Sx.Own _ _ _ _ _; rw [show Inv.add L 11 14 = false from f14]; exact H)⟩
   ·exact Sa
   ·exact Sa
   ·intro L A w up hun hd F H
    have t11 : L 11 = true := hd 11 rfl
    have f14 : L 14 = false := hun
    rw [t11, f14] at H
    refine step_on rfl (d_store (i := 1) (xs := L190) (us := (L187 g1)) sz_35 F H rfl rfl rfl rfl rfl rfl rfl (Nat.le_of_ble_eq_true rfl) rfl) ?_
    intro xv w' H
    exact ⟨Cn, (by show Sx.Own _ _ _ _ _; rw [show Inv.add L 14 11 = true from t11]; exact H)⟩
  ·intro L A w hL F H
   have t11 : L 11 = true := hL 11 rfl
   have t14 : L 14 = true := hL 14 rfl
   rw [t11, t14] at H
   have H := H.pickN 2 0 [0, 1] []
   have F := F.tq [] rfl
   try dsimp only [Exit.then, Exit.inBlock, Exit.jump, Exit.noGoto]
   refine Sx.end0 F Tryz.results162 ?_
   exact ⟨_, rfl, rfl, H.pickN 2 0 [1] []⟩
abbrev L193 : Value := .tuple #[iU 16294208416658607535, iI 0]
abbrev L194 (x0 : Nat) : List Value := [iI 1, iU 0, iU 0, iU 1, iU 16294208416658607535, iU 7960286522194355700, iU 487617019471545679, iU 17909611376780542444, iU 1961750202426094747, iU 6038094601263162090, iU 3207296026000306913, iU 14232521865600346940, sL x0 5 7 7, iI 1, iU 17418742259747381416, iU 0, iU 0, iU 0, iU 0, iU 0, iU 0, iU 0, iU 0, iU 0, iU 0, iW 0, iW 0, bF]
abbrev L195 (x0 : Nat) : List Value := [iI 1, iU 0, iU 0, iU 0, iU 16294208416658607535, iU 7960286522194355700, iU 487617019471545679, iU 17909611376780542444, iU 1961750202426094747, iU 6038094601263162090, iU 3207296026000306913, iU 14232521865600346940, sL x0 5 7 7, iI 1, iU 17418742259747381416, iU 0, iU 0, iU 0, iU 0, iU 0, iU 0, iU 0, iU 0, iU 0, iU 0, iW 0, iW 0, bF]
theorem cx98 (H : Sx.Own w0 w (Bt g1 L168 :: bs) rs K) : Cr 157 #[pT g1 0] w0 w L193 (Bt g1 (L194 g1) :: bs) rs K := by
 refine En Tryz.func157 Tryz.ntmps157 fun A F => ?_
 refine Sp fun _ kk => ?_
 iterate 2 (refine Av F ?_; intro A F)
 refine Nl kk (Sx.seq fun K2 hK2 => Sp fun _ kk => Av F fun A F => ?_)
 refine Zx F (Do if_159 F (cx96 H)) ?_
 rintro _ w ⟨rfl, H⟩ A F
 refine Zv F (d_build (qs := #[]) (v := .agg #[iU 0, iU 0]) F rfl rfl (by kernel_rfl)) fun A F => ?_
 refine Zn bF F fun A F => ?_
 refine Nl kk (condF F rfl (wp_skip (hK2 _ _ (Sx.seq fun K4 hK4 => Sp fun _ kk => ?_))))
 iterate 4 (refine Av F ?_; intro A F)
 refine Zv F (d_lenS el_65 F rfl rfl) fun A F => ?_
 refine Av F fun A F => ?_
 refine Nl kk (condT F rfl (Sx.plain ?_))
 refine Av F fun A F => ?_
 refine Zx F (Do if_162 F (cx97 H)) ?_
 rintro _ w ⟨rfl, H⟩ A F
 refine Sx.nil (hK4 _ _ (Sp fun _ kk => ?_))
 iterate 4 (refine Av F ?_; intro A F)
 refine Zv F (d_ix1 (k := 0) (g := g1) (off := 4) el_65 F rfl rfl rfl rfl rfl (by omega)) fun A F => ?_
 iterate 2 (refine Av F ?_; intro A F)
 refine Nl kk (Sp fun _ kk => ?_)
 iterate 5 (refine Av F ?_; intro A F)
 refine Zv F (d_sliceG (v := sL g1 5 7 7) (lv := some (iI 1)) (hv := none) (mv := none) F rfl rfl rfl rfl rfl (by kernel_rfl)) fun A F => ?_
 iterate 2 (refine Av F ?_; intro A F)
 refine Zs 0 (L195 g1) sz_65 F H fun A w F H => ?_
 refine Nl kk (Sx.seq fun K8 hK8 => ?_)
 have F := F.tq [(0, pT g1 0), (2, iU 0), (3, iI 0), (4, iU 16294208416658607535)] rfl
 refine Dn F [some (pT g1 0), some (pT g1 0), some (pT g1 0), some (pT g1 2), some (.agg #[iU 0, iU 0]), some (.agg #[iU 0, iU 1]), some (.tuple #[.agg #[iU 0, iU 1], bF]), some (.tuple #[.agg #[iU 0, iU 1], bF]), some (.agg #[iU 0, iU 1]), some (bF), some (pT g1 0), some (pT g1 2), none] (fun L A w => Sx.Own w0 w (Bt g1 (cond (L 12) (L194 g1) (L195 g1)) :: bs) rs K) (H.drew.padG [] [] rfl rfl) ?_ ?_
 ·refine ⟨?_, ?_, ?_, ?_, ?_, ?_, ?_, ?_, ?_, ?_, ?_, ?_, ?_, trivial⟩
  ·exact Sa
  ·exact Sa
  ·exact Sa
  ·exact Sa
  ·intro L A w up hun hd F H
   have f12 : L 12 = false := up 12 4 rfl hun
   have Hj := H; rw [f12] at Hj
   refine step_on rfl (Lr 0 [iU 0, iU 0] rw_26 F Hj) ?_
   rintro xv w' ⟨hx, rfl⟩
   exact ⟨Cs hx, H⟩
  ·intro L A w up hun hd F H
   have f12 : L 12 = false := up 12 5 rfl hun
   rw [f12] at H
   refine step_on rfl (d_call (vs := [iU 1]) (v := .agg #[iU 0, iU 1]) if_15 F H rfl rfl (Calls.val (v := L17) (Calls.val (wofV_c 1#64 _) (by kernel_rfl) (by kernel_rfl)) rfl (by kernel_rfl))) ?_
   rintro xv w' ⟨hx, H⟩
   exact ⟨Cs hx, (by show Sx.Own _ _ _ _ _; rw [show Inv.add L 5 12 = false from f12]; exact H)⟩
  ·intro L A w up hun hd F H
   have f12 : L 12 = false := up 12 6 rfl hun
   rw [f12] at H
   refine step_on rfl (Dc (v := .tuple #[.agg #[iU 0, iU 1], bF]) if_14 F H (Calls.val (v := .tuple #[.agg #[uH (0#128 + 1#128), uL (0#128 + 1#128)], .bool (Wd.over 0#128 1#128)]) (wadd_c 0#128 1#128 _) rfl (by kernel_rfl))) ?_
   rintro xv w' ⟨hx, H⟩
   exact ⟨Cs hx, (by show Sx.Own _ _ _ _ _; rw [show Inv.add L 6 12 = false from f12]; exact H)⟩
  ·exact Sa
  ·exact Sa
  ·exact Sa
  ·exact Sa
  ·exact Sa
  ·intro L A w up hun hd F H
   have f12 : L 12 = false := hun
   rw [f12] at H
   refine step_on rfl (d_store (i := 0) (xs := [iU 0, iU 1]) (us := (L194 g1)) sz_26 F H rfl rfl rfl rfl rfl rfl rfl (Nat.le_of_ble_eq_true rfl) rfl) ?_
   intro xv w' H
   exact ⟨Cn, H⟩
 ·intro L A w hL F H
  have t12 : L 12 = true := hL 12 rfl
  rw [t12] at H
  have H := H.pickN 1 0 [0] []
  have F := F.tq [(2, iU 0), (3, iI 0), (4, iU 16294208416658607535)] rfl
  refine hK8 _ _ (Sp fun _ kk => ?_)
  iterate 3 (refine Av F ?_; intro A F)
  refine Nl kk (Wr (ret2 F Tryz.results157 (res_tmp F rfl) (res_tmp F rfl) ?_))
  exact ⟨_, rfl, rfl, H.pickN 1 0 [0] []⟩
theorem cx99 (H : Sx.Own w0 w (Bt g1 (L185 g2) :: Bt g2 L168 :: bs) rs K) : Cq 140 #[pT g1 0, iI 1] w fun x w' => ∃ g4 c1 : Nat, 1 ≤ c1 ∧ x = .tuple #[sL g4 0 1 c1, iI 0] ∧ Sx.Own w0 w' (Bt g1 (L185 g2) :: Bt g2 (L194 g2) :: bs) (⟨true, sL g4 0 1 c1, 22, 1, 1, [iU 16294208416658607535]⟩ :: rs) K := by
 refine En Tryz.func140 Tryz.ntmps140 fun A F => ?_
 refine Sp fun _ kk => ?_
 iterate 2 (refine Av F ?_; intro A F)
 refine Nl kk (Sp fun _ kk => Av F fun A F => ?_)
 refine Zv F (d_mkFunc (fv := [pT g1 0]) (cv := []) F rfl rfl rfl) fun A F => ?_
 refine Av F fun A F => ?_
 refine Nl kk (Sx.seq fun K3 hK3 => Sp fun _ kk => ?_)
 iterate 2 (refine Av F ?_; intro A F)
 refine Zv F (d_conv (v := iU 1) F rfl rfl (by kernel_rfl)) fun A F => ?_
 refine Zw F (d_call (vs := [iU 1]) (v := .agg #[iU 0, iU 1]) if_15 F H rfl rfl (Calls.val (v := L17) (Calls.val (wofV_c 1#64 _) (by kernel_rfl) (by kernel_rfl)) rfl (by kernel_rfl))) fun A w F H => ?_
 refine Zx F (d_callCO (fv := [pT g1 0]) (vs := [.agg #[iU 0, iU 1]]) (cv := []) if_141 F rfl rfl rfl (cx95 H)) ?_
 rintro _ w ⟨rfl, H⟩ A F
 refine Zv F (d_un (v := bF) F rfl rfl rfl) fun A F => ?_
 refine Nl kk (condF F rfl (wp_skip (hK3 _ _ (Sp fun _ kk => Av F fun A F => ?_))))
 refine Nl kk (Sx.seq fun K6 hK6 => Sp fun _ kk => ?_)
 iterate 2 (refine Av F ?_; intro A F)
 refine Nl kk (wp_block (wp_loop_rounds 40 ?_))
 refine Rs ?_
 refine Sp fun _ kk => Av F fun A F => ?_
 refine Nl kk (Sx.seq fun K9 hK9 => condT F rfl (wp_skip (hK9 _ _ (Sx.seq fun K10 hK10 => wp_block (Sp fun _ kk => ?_)))))
 iterate 4 (refine Av F ?_; intro A F)
 have H := H.pickN 2 0 [1, 0] []
 refine Zx F (Do if_157 F (cx98 H)) ?_
 rintro _ w ⟨rfl, H⟩ A F
 iterate 5 (refine Av F ?_; intro A F)
 refine Nl kk (Sx.seq fun K12 hK12 => Sp fun _ kk => ?_)
 iterate 2 (refine Av F ?_; intro A F)
 refine Nl kk (condF F rfl (wp_skip (hK12 _ _ (Sx.plain ?_))))
 iterate 2 (refine Av F ?_; intro A F)
 refine Zg (mk := fun g => sL g 0 1 1) F (d_lit (qs := #[(0, iU 16294208416658607535)]) (cs := #[iU 16294208416658607535]) (E := 22) F H rfl rfl (fun _ => by kernel_rfl)) fun g3 A w F H => ?_
 have H := Sx.Own.nilR H 22 1
 refine Zr (mk := fun v => v) F (d_append (i := 0) (j := 0) el_65 F H rfl rfl rfl rfl rfl rfl rfl rfl (by decide) (by decide)) fun v1 A w F H => ?_
 obtain ⟨g4, c1, rfl, hbc1, hdc1⟩ := H.open (i := 0) rfl (by decide)
 refine Av F fun A F => ?_
 refine Sx.nil (hK10 _ _ (Sx.plain ?_))
 refine Zn (iI 1) F fun A F => ?_
 refine Av F fun A F => ?_
 refine Sx.nil (Rs ?_)
 refine Sp fun _ kk => Av F fun A F => ?_
 refine Nl kk (Sx.seq fun K15 hK15 => condF F rfl (wp_exit ?_))
 try dsimp only [Exit.then, Exit.jump, Exit.noGoto]
 refine exit_here (hK6 _ _ (Sp fun _ kk => ?_))
 iterate 3 (refine Av F ?_; intro A F)
 refine Nl kk (Wr (ret2 F Tryz.results140 (res_tmp F rfl) (res_tmp F rfl) ?_))
 exact ⟨_, rfl, g4, c1, (by omega), rfl, H.pickN 3 1 [2, 1] [0]⟩
theorem cx100 (H : Sx.Own w0 w (Bt g1 (L185 g2) :: Bt g2 L168 :: bs) rs K) : Cr 102 #[pT g1 0] w0 w L193 (Bt g1 (L185 g2) :: Bt g2 (L194 g2) :: bs) rs K := by
 refine En Tryz.func102 Tryz.ntmps102 fun A F => ?_
 refine Sp fun _ kk => ?_
 iterate 2 (refine Av F ?_; intro A F)
 refine Nl kk (Sp fun _ kk => Av F fun A F => ?_)
 refine Zx F (Do if_140 F (cx99 H)) ?_
 rintro _ w ⟨g3, c1, hbc1, rfl, H⟩ A F
 iterate 5 (refine Av F ?_; intro A F)
 refine Nl kk (Sx.seq fun K3 hK3 => Sp fun _ kk => ?_)
 iterate 2 (refine Av F ?_; intro A F)
 refine Nl kk (condF F rfl (wp_skip (hK3 _ _ (Sp fun _ kk => Av F fun A F => ?_))))
 refine Zv F (d_ix1 (k := 0) (g := g3) (off := 0) el_65 F rfl rfl rfl rfl rfl (by omega)) fun A F => ?_
 refine Zv F (Ld 0 one_22 F (H.rowBox (i := 0) rfl)) fun A F => ?_
 iterate 2 (refine Av F ?_; intro A F)
 refine Nl kk (Wr (ret2 F Tryz.results102 (res_tmp F rfl) (res_tmp F rfl) ?_))
 exact ⟨_, rfl, rfl, H.pickN 2 1 [0, 1] []⟩
end
section
open Sx
variable {w0 w : World} {bs : List Sx.Bx} {rs : List Sx.Rx} {K : Nat → Option Obj} {g1 g2 g3 g4 g5 g6 g7 g8 g9 g10 g11 g12 g13 g14 g15 g16 g17 g18 g19 g20 g21 g22 g23 g24 c1 c2 c3 c4 c5 c6 c7 c8 c9 : Nat} {v1 v2 v3 v4 v5 v6 v7 v8 v9 : Value} {n b : BitVec 64} {at' : BitVec 128} {kd lf : BitVec 8}
theorem cx101 (hbc1 : 2 ≤ c1) (H : Sx.Own w0 w (Bt g1 [pT g2 0, iI 1, iU 0] :: Bt g2 [sL g3 0 2 c1, iI 2] :: Bt g4 (L185 g5) :: Bt g5 L168 :: bs) (⟨true, sL g3 0 2 c1, 217, 2, 2, [iI 0, pT g4 0, iI 1, pT g6 0]⟩ :: rs) K) : Cr 74 #[pT g1 0, iI 0] w0 w L193 (Bt g1 [pT g2 0, iI 1, iU 0] :: Bt g2 [sL g3 0 2 c1, iI 2] :: Bt g4 (L185 g5) :: Bt g5 (L194 g5) :: bs) (⟨true, sL g3 0 2 c1, 217, 2, 2, [iI 0, pT g4 0, iI 1, pT g6 0]⟩ :: rs) K := by
 refine En Tryz.func74 Tryz.ntmps74 fun A F => ?_
 refine Sp fun _ kk => ?_
 iterate 2 (refine Av F ?_; intro A F)
 refine Nl kk (Sp fun _ kk => ?_)
 iterate 2 (refine Av F ?_; intro A F)
 refine Zx F (Do if_95 F (cx90 (by omega) H)) ?_
 rintro _ w ⟨rfl, H⟩ A F
 iterate 5 (refine Av F ?_; intro A F)
 refine Nl kk (Sx.seq fun K3 hK3 => Sp fun _ kk => ?_)
 iterate 2 (refine Av F ?_; intro A F)
 refine Nl kk (condF F rfl (wp_skip (hK3 _ _ (Sp fun _ kk => Av F fun A F => ?_))))
 have H := H.pickN 4 1 [2, 3, 0, 1] [0]
 refine Zx F (Do if_102 F (cx100 H)) ?_
 rintro _ w ⟨rfl, H⟩ A F
 iterate 4 (refine Av F ?_; intro A F)
 refine Nl kk (Wr (ret2 F Tryz.results74 (res_tmp F rfl) (res_tmp F rfl) ?_))
 exact ⟨_, rfl, rfl, H.pickN 4 1 [2, 3, 0, 1] [0]⟩
abbrev L196 : Value := .agg #[iI 0, iU 16294208416658607535, nS, nS, iI 0]
abbrev L197 : List Value := [iI 0, iU 16294208416658607535, nS, nS, iI 0]
theorem cx102 (hbc1 : 2 ≤ c1) (H : Sx.Own w0 w (Bt g1 [pT g2 0] :: Bt g2 [pT g3 0, iI 1, iU 0] :: Bt g3 [sL g4 0 2 c1, iI 2] :: Bt g5 (L185 g6) :: Bt g6 L168 :: bs) (⟨true, sL g4 0 2 c1, 217, 2, 2, [iI 0, pT g5 0, iI 1, pT g7 0]⟩ :: rs) K) : Cr 46 #[pT g1 0, L156] w0 w L196 (Bt g1 [pT g2 0] :: Bt g2 [pT g3 0, iI 1, iU 0] :: Bt g3 [sL g4 0 2 c1, iI 2] :: Bt g5 (L185 g6) :: Bt g6 (L194 g6) :: bs) (⟨true, sL g4 0 2 c1, 217, 2, 2, [iI 0, pT g5 0, iI 1, pT g7 0]⟩ :: rs) K := by
 refine En Tryz.func46 Tryz.ntmps46 fun A F => ?_
 refine Sp fun _ kk => Zb F (d_box F H rfl rfl L157 rfl) fun g8 A w F H => ?_
 refine Zb F (d_alloc H rfl [iI 0, iU 0, nS, nS, iI 0] zero_68) fun g9 A w F H => ?_
 refine Nl kk (Sx.seq fun K2 hK2 => ?_)
 have F := F.tq [(0, pT g1 0), (3, pT g8 0), (4, pT g9 0)] rfl
 refine Dn F [some (pT g1 0), some (pT g1 0), some (pT g1 0), some (pT g2 0), some (pT g8 1), some (iI 0), some (L193), some (L193), some (iU 16294208416658607535), some (iI 0), some (iU 16294208416658607535), some (iI 0)] (fun L A w => Sx.Own w0 w (Bt g9 [iI 0, iU 0, nS, nS, iI 0] :: Bt g8 L157 :: Bt g1 [pT g2 0] :: Bt g2 [pT g3 0, iI 1, iU 0] :: Bt g3 [sL g4 0 2 c1, iI 2] :: Bt g5 (L185 g6) :: Bt g6 (cond (L 6) (L194 g6) L168) :: bs) (⟨true, sL g4 0 2 c1, 217, 2, 2, [iI 0, pT g5 0, iI 1, pT g7 0]⟩ :: rs) K) (H.drew.padG [] [] rfl rfl) ?_ ?_
 ·refine ⟨?_, ?_, ?_, ?_, ?_, ?_, ?_, ?_, ?_, ?_, ?_, ?_, trivial⟩
  ·exact Sa
  ·exact Sa
  ·exact Sa
  ·exact SV (fun _ _ _ F H => Ld 2 one_114 F H)
  ·exact Sa
  ·exact SV (fun _ _ _ F H => Ld 1 one_3 F H)
  ·intro L A w up hun hd F H
   have f6 : L 6 = false := hun
   rw [f6] at H
   have H : Sx.Own w0 w (Bt g9 [iI 0, iU 0, nS, nS, iI 0] :: Bt g8 L157 :: Bt g1 [pT g2 0] :: Bt g2 [pT g3 0, iI 1, iU 0] :: Bt g3 [sL g4 0 2 c1, iI 2] :: Bt g5 (L185 g6) :: Bt g6 L168 :: bs) (⟨true, sL g4 0 2 c1, 217, 2, 2, [iI 0, pT g5 0, iI 1, pT g7 0]⟩ :: rs) K := H
   have H := H.pickN 7 1 [3, 4, 5, 6, 0, 1, 2] [0]
   refine step_on rfl (Do if_74 F (cx101 (by omega) H)) ?_
   rintro xv w' ⟨hx, H⟩
   have H := H.pickN 7 1 [4, 5, 6, 0, 1, 2, 3] [0]
   exact ⟨Cs hx, H⟩
  ·exact Sa
  ·exact Sa
  ·exact Sa
  ·exact Sa
  ·exact Sa
 ·intro L A w hL F H
  have t6 : L 6 = true := hL 6 rfl
  rw [t6] at H
  have H := H.pickN 7 1 [0, 1, 2, 3, 4, 5, 6] [0]
  have F := F.tq [(4, pT g9 0), (5, iU 16294208416658607535), (6, iI 0)] rfl
  refine hK2 _ _ (Sp fun _ kk => ?_)
  iterate 2 (refine Av F ?_; intro A F)
  refine Zv F (d_build (qs := #[(1, iU 16294208416658607535), (4, iI 0)]) (v := L196) F rfl rfl (by kernel_rfl)) fun A F => ?_
  refine Zs 0 L197 sz_68 F H fun A w F H => ?_
  refine Nl kk (Wr (ret1 F Tryz.results46 (res_row (i := 0) (xs := L197) rw_68 F H rfl rfl rfl rfl) ?_))
  exact ⟨_, rfl, rfl, H.pickN 7 1 [2, 3, 4, 5, 6] [0]⟩
theorem cx103 (hbc1 : 2 ≤ c1) (H : Sx.Own w0 w (Bt g1 [pT g2 0] :: Bt g2 [pT g3 0, iI 1, iU 0] :: Bt g3 [sL g4 0 2 c1, iI 2] :: Bt g5 (L185 g6) :: Bt g6 L168 :: bs) (⟨true, sL g4 0 2 c1, 217, 2, 2, [iI 0, pT g5 0, iI 1, pT g7 0]⟩ :: rs) K) : Cr 19 #[pT g1 0, L156] w0 w L196 (Bt g1 [pT g2 0] :: Bt g2 [pT g3 0, iI 1, iU 0] :: Bt g3 [sL g4 0 2 c1, iI 2] :: Bt g5 (L185 g6) :: Bt g6 (L194 g6) :: bs) (⟨true, sL g4 0 2 c1, 217, 2, 2, [iI 0, pT g5 0, iI 1, pT g7 0]⟩ :: rs) K := by
 refine En Tryz.func19 Tryz.ntmps19 fun A F => ?_
 refine Sp fun _ kk => Zb F (d_box F H rfl rfl L157 rfl) fun g8 A w F H => ?_
 refine Zb F (d_alloc H rfl [iI 0, iU 0, nS, nS, iI 0] zero_68) fun g9 A w F H => ?_
 refine Nl kk (Sx.seq fun K2 hK2 => ask_map F H ?_)
 intro A w mr mo10 hmK hmo F H
 refine hK2 _ _ (Sp fun _ kk => ?_)
 iterate 3 (refine Av F ?_; intro A F)
 refine Zv F (d_lookup (kt := 3) (et := 117) (z := .nilFunc) (v := .func (.func 46) #[] #[]) (b := true) (by kernel_rfl) (by kernel_rfl) (fun _ => by kernel_rfl) F H rfl rfl rfl (if_pos rfl) hmo rfl) fun A F => ?_
 have H := H.unkeep1 hmK
 iterate 5 (refine Av F ?_; intro A F)
 refine Nl kk (Sx.seq fun K4 hK4 => wp_block (Sp fun _ kk => Av F fun A F => ?_))
 refine Zv F (d_un (v := bF) F rfl rfl rfl) fun A F => ?_
 refine Av F fun A F => ?_
 refine Nl kk (condF F rfl (Sp fun _ kk => Av F fun A F => ?_))
 have H := H.pickN 7 1 [2, 0, 1, 3, 4, 5, 6] [0]
 refine Zx F (Do if_53 F (cx64 H)) ?_
 rintro _ w ⟨rfl, H⟩ A F
 refine Av F fun A F => ?_
 refine su F (wanted_off rfl (guard_known (d := 24) (b := false) F rfl rfl) rfl) rfl (by decide) (fun A F => ?_)
 refine su F (wanted_off rfl (guard_known (d := 24) (b := false) F rfl rfl) rfl) rfl (by decide) (fun A F => ?_)
 refine su F (wanted_off rfl (guard_known (d := 24) (b := false) F rfl rfl) rfl) rfl (by decide) (fun A F => ?_)
 iterate 2 (refine Av F ?_; intro A F)
 refine su F (wanted_off rfl (guard_known (d := 29) (b := false) F rfl rfl) rfl) rfl (by decide) (fun A F => ?_)
 refine su F (wanted_off rfl (guard_known (d := 29) (b := false) F rfl rfl) rfl) rfl (by decide) (fun A F => ?_)
 refine su F (wanted_off rfl (guard_known (d := 29) (b := false) F rfl rfl) rfl) rfl (by decide) (fun A F => ?_)
 iterate 2 (refine Av F ?_; intro A F)
 refine Nl kk (condF F rfl (wp_skip (hK4 _ _ (Sp fun _ kk => ?_))))
 iterate 3 (refine Av F ?_; intro A F)
 have H := H.pickN 7 1 [0, 3, 4, 5, 6, 1, 2] [0]
 refine Zx F (d_callCO (fv := []) (vs := [pT g1 0, L156]) (cv := []) if_46 F rfl rfl rfl (cx102 (by omega) H)) ?_
 rintro _ w ⟨rfl, H⟩ A F
 refine Zs 5 L197 sz_68 F H fun A w F H => ?_
 refine Nl kk (Wr (ret1 F Tryz.results19 (res_row (i := 5) (xs := L197) rw_68 F H rfl rfl rfl rfl) ?_))
 exact ⟨_, rfl, rfl, H.pickN 7 1 [0, 1, 2, 3, 4] [0]⟩
theorem cx104 (hbc1 : 3 ≤ c1) (H : Sx.Own w0 w (Bt g1 [nP] :: bs) (⟨true, sL g2 0 3 c1, 71, 9, 3, L158⟩ :: rs) K) : Cq 25 #[pT g1 0, sL g2 0 3 c1] w fun x w' => ∃ g19 c6 g4 g5 g12 c4 g7 g8 g13 g14 : Nat, 3 ≤ c6 ∧ 2 ≤ c4 ∧ x = sL g19 0 3 c6 ∧ Sx.Own w0 w' (Bt g1 [pT g4 0] :: Bt g4 [pT g5 0, iI 1, iU 0] :: Bt g5 [sL g12 0 2 c4, iI 2] :: Bt g7 (L185 g8) :: Bt g13 (L172 g14) :: Bt g8 (L194 g8) :: Bt g14 L183 :: bs) (⟨true, sL g2 0 3 c1, 71, 9, 3, L158⟩ :: ⟨true, sL g19 0 3 c6, 68, 5, 3, [iI 0, iU 0, nS, nS, iI 0, iI 1, iU 0, nS, nS, iI 0, iI 0, iU 16294208416658607535, nS, nS, iI 0]⟩ :: ⟨true, sL g12 0 2 c4, 217, 2, 2, [iI 0, pT g7 0, iI 1, pT g13 0]⟩ :: rs) K := by
 refine En Tryz.func25 Tryz.ntmps25 fun A F => ?_
 refine Sp fun _ kk => Av F fun A F => ?_
 refine Nl kk (Sp fun _ kk => Av F fun A F => ?_)
 refine Nl kk (Sx.seq fun K3 hK3 => Sp fun _ kk => Av F fun A F => ?_)
 refine Zn bF F fun A F => ?_
 refine Nl kk (condF F rfl (wp_skip (hK3 _ _ (Sx.seq fun K5 hK5 => Sp fun _ kk => Av F fun A F => ?_))))
 refine Zv F (d_lenS el_83 F rfl rfl) fun A F => ?_
 refine Av F fun A F => ?_
 refine Nl kk (wp_block (wp_loop_rounds 40 ?_))
 refine Rs ?_
 refine Sp fun _ kk => Av F fun A F => ?_
 refine Nl kk (Sx.seq fun K8 hK8 => condT F rfl (wp_skip (hK8 _ _ (Sx.seq fun K9 hK9 => wp_block (Sp fun _ kk => Zv F (d_ixZ (k := 0) (g := g2) (off := 0) (z := 9) el_83 F rfl rfl rfl rfl rfl (by omega)) fun A F => ?_)))))
 refine Zv F (Lr 0 L145 rw_71 F (H.rowBox (i := 0) rfl)) fun A F => ?_
 refine Zb F (d_alloc H rfl L146 zero_71) fun g3 A w F H => ?_
 refine Zs 0 L145 sz_71 F H fun A w F H => ?_
 refine Nl kk (Sx.plain ?_)
 iterate 3 (refine Av F ?_; intro A F)
 have H := H.pickN 2 1 [1, 0] [0]
 refine Zx F (Do if_19 F (cx63 H)) ?_
 rintro _ w ⟨g4, g5, g6, c2, g7, g8, hbc2, rfl, H⟩ A F
 refine Zg (mk := fun g => sL g 0 1 1) F (d_lit (qs := #[(0, .agg #[iI 0, iU 0, nS, nS, iI 0])]) (cs := #[iI 0, iU 0, nS, nS, iI 0]) (E := 68) F H rfl rfl (fun _ => by kernel_rfl)) fun g9 A w F H => ?_
 have H := Sx.Own.nilR H 68 5
 refine Zr (mk := fun v => v) F (d_append (i := 0) (j := 0) el_86 F H rfl rfl rfl rfl rfl rfl rfl rfl (by decide) (by decide)) fun v1 A w F H => ?_
 obtain ⟨g10, c3, rfl, hbc3, hdc3⟩ := H.open (i := 0) rfl (by decide)
 refine Av F fun A F => ?_
 refine Sx.nil (hK9 _ _ (Sx.plain ?_))
 refine Zn (iI 1) F fun A F => ?_
 refine Av F fun A F => ?_
 refine Sx.nil (Rs ?_)
 refine Sp fun _ kk => Av F fun A F => ?_
 refine Nl kk (Sx.seq fun K12 hK12 => condT F rfl (wp_skip (hK12 _ _ (Sx.seq fun K13 hK13 => wp_block (Sp fun _ kk => Zv F (d_ixZ (k := 1) (g := g2) (off := 0) (z := 9) el_83 F rfl rfl rfl rfl rfl (by omega)) fun A F => ?_)))))
 refine Zv F (Lr 0 L155 rw_71 F (H.rowBox (i := 2) rfl)) fun A F => ?_
 refine Zb F (d_alloc H rfl L146 zero_71) fun g11 A w F H => ?_
 refine Zs 0 L155 sz_71 F H fun A w F H => ?_
 refine Nl kk (Sx.plain ?_)
 iterate 3 (refine Av F ?_; intro A F)
 have H := H.pickN 8 3 [2, 3, 4, 5, 6, 0, 1, 7] [1, 0, 2]
 refine Zx F (Do if_19 F (cx85 (by omega) H)) ?_
 rintro _ w ⟨g12, c4, g13, g14, hbc4, rfl, H⟩ A F
 refine Zg (mk := fun g => sL g 0 1 1) F (d_lit (qs := #[(0, .agg #[iI 1, iU 0, nS, nS, iI 0])]) (cs := #[iI 1, iU 0, nS, nS, iI 0]) (E := 68) F H rfl rfl (fun _ => by kernel_rfl)) fun g15 A w F H => ?_
 refine Zr (mk := fun v => v) F (d_append (i := 1) (j := 0) el_86 F H rfl rfl rfl rfl rfl rfl rfl rfl (by decide) (by decide)) fun v2 A w F H => ?_
 obtain ⟨g16, c5, rfl, hbc5, hdc5⟩ := H.open (i := 1) rfl (by decide)
 refine Av F fun A F => ?_
 refine Sx.nil (hK13 _ _ (Sx.plain ?_))
 refine Zn (iI 2) F fun A F => ?_
 refine Av F fun A F => ?_
 refine Sx.nil (Rs ?_)
 refine Sp fun _ kk => Av F fun A F => ?_
 refine Nl kk (Sx.seq fun K16 hK16 => condT F rfl (wp_skip (hK16 _ _ (Sx.seq fun K17 hK17 => wp_block (Sp fun _ kk => Zv F (d_ixZ (k := 2) (g := g2) (off := 0) (z := 9) el_83 F rfl rfl rfl rfl rfl (by omega)) fun A F => ?_)))))
 refine Zv F (Lr 0 L157 rw_71 F (H.rowBox (i := 2) rfl)) fun A F => ?_
 refine Zb F (d_alloc H rfl L146 zero_71) fun g17 A w F H => ?_
 refine Zs 0 L157 sz_71 F H fun A w F H => ?_
 refine Nl kk (Sx.plain ?_)
 iterate 3 (refine Av F ?_; intro A F)
 have H := H.pickN 12 3 [2, 3, 4, 5, 6, 0, 1, 7, 8, 9, 10, 11] [0, 1, 2]
 refine Zx F (Do if_19 F (cx103 (by omega) H)) ?_
 rintro _ w ⟨rfl, H⟩ A F
 refine Zg (mk := fun g => sL g 0 1 1) F (d_lit (qs := #[(0, L196)]) (cs := #[iI 0, iU 16294208416658607535, nS, nS, iI 0]) (E := 68) F H rfl rfl (fun _ => by kernel_rfl)) fun g18 A w F H => ?_
 refine Zr (mk := fun v => v) F (d_append (i := 1) (j := 0) el_86 F H rfl rfl rfl rfl rfl rfl rfl rfl (by decide) (by decide)) fun v3 A w F H => ?_
 obtain ⟨g19, c6, rfl, hbc6, hdc6⟩ := H.open (i := 1) rfl (by decide)
 refine Av F fun A F => ?_
 refine Sx.nil (hK17 _ _ (Sx.plain ?_))
 refine Zn (iI 3) F fun A F => ?_
 refine Av F fun A F => ?_
 refine Sx.nil (Rs ?_)
 refine Sp fun _ kk => Av F fun A F => ?_
 refine Nl kk (Sx.seq fun K20 hK20 => condF F rfl (wp_exit ?_))
 try dsimp only [Exit.then, Exit.jump, Exit.noGoto]
 refine exit_here (hK5 _ _ (Sp fun _ kk => ?_))
 iterate 2 (refine Av F ?_; intro A F)
 refine Nl kk (Wr (ret1 F Tryz.results25 (res_tmp F rfl) ?_))
 exact ⟨_, rfl, g19, c6, g4, g5, g12, c4, g7, g8, g13, g14, (by omega), (by omega), rfl, H.pickN 13 3 [1, 2, 3, 4, 8, 5, 9] [2, 1, 0]⟩
theorem cx105 (hbc1 : 2 ≤ c1) (H : Sx.Own w0 w (Bt g1 [sL g2 0 2 c1, iI 2] :: bs) (⟨true, sL g2 0 2 c1, 217, 2, 2, [iI 0, pT g3 0, iI 1, pT g4 0]⟩ :: rs) K) : Cq 82 #[pT g1 0] w fun x w' => ∃ g10 c3 : Nat, 2 ≤ c3 ∧ x = sL g10 0 2 c3 ∧ Sx.Own w0 w' (Bt g1 [sL g2 0 2 c1, iI 2] :: bs) (⟨true, sL g2 0 2 c1, 217, 2, 2, [iI 0, pT g3 0, iI 1, pT g4 0]⟩ :: ⟨true, sL g10 0 2 c3, 3, 1, 2, [iI 0, iI 1]⟩ :: rs) K := by
 refine En Tryz.func82 Tryz.ntmps82 fun A F => ?_
 refine Sp fun _ kk => Av F fun A F => ?_
 refine Nl kk (Sp fun _ kk => Av F fun A F => ?_)
 refine Nl kk (Sx.seq fun K3 hK3 => Sp fun _ kk => ?_)
 iterate 4 (refine Av F ?_; intro A F)
 refine Zv F (d_lenS el_213 F rfl rfl) fun A F => ?_
 refine Av F fun A F => ?_
 refine Nl kk (wp_block (wp_loop_rounds 40 ?_))
 refine Rs ?_
 refine Sp fun _ kk => Av F fun A F => ?_
 refine Nl kk (Sx.seq fun K6 hK6 => condT F rfl (wp_skip (hK6 _ _ (Sx.seq fun K7 hK7 => wp_block (Sp fun _ kk => Zv F (d_ixZ (k := 0) (g := g2) (off := 0) (z := 2) el_213 F rfl rfl rfl rfl rfl (by omega)) fun A F => ?_)))))
 refine Zv F (Lr 0 [iI 0, pT g3 0] rw_217 F (H.rowBox (i := 0) rfl)) fun A F => ?_
 refine Zb F (d_alloc H rfl [iI 0, nP] zero_217) fun g5 A w F H => ?_
 refine Zs 0 [iI 0, pT g3 0] sz_217 F H fun A w F H => ?_
 refine Nl kk (Sx.plain ?_)
 iterate 3 (refine Av F ?_; intro A F)
 refine Zg (mk := fun g => sL g 0 1 1) F (d_lit (qs := #[(0, iI 0)]) (cs := #[iI 0]) (E := 3) F H rfl rfl (fun _ => by kernel_rfl)) fun g6 A w F H => ?_
 have H := Sx.Own.nilR H 3 1
 refine Zr (mk := fun v => v) F (d_append (i := 0) (j := 0) el_54 F H rfl rfl rfl rfl rfl rfl rfl rfl (by decide) (by decide)) fun v1 A w F H => ?_
 obtain ⟨g7, c2, rfl, hbc2, hdc2⟩ := H.open (i := 0) rfl (by decide)
 refine Av F fun A F => ?_
 refine Sx.nil (hK7 _ _ (Sx.plain ?_))
 refine Zn (iI 1) F fun A F => ?_
 refine Av F fun A F => ?_
 refine Sx.nil (Rs ?_)
 refine Sp fun _ kk => Av F fun A F => ?_
 refine Nl kk (Sx.seq fun K10 hK10 => condT F rfl (wp_skip (hK10 _ _ (Sx.seq fun K11 hK11 => wp_block (Sp fun _ kk => Zv F (d_ixZ (k := 1) (g := g2) (off := 0) (z := 2) el_213 F rfl rfl rfl rfl rfl (by omega)) fun A F => ?_)))))
 refine Zv F (Lr 0 [iI 1, pT g4 0] rw_217 F (H.rowBox (i := 1) rfl)) fun A F => ?_
 refine Zb F (d_alloc H rfl [iI 0, nP] zero_217) fun g8 A w F H => ?_
 refine Zs 0 [iI 1, pT g4 0] sz_217 F H fun A w F H => ?_
 refine Nl kk (Sx.plain ?_)
 iterate 3 (refine Av F ?_; intro A F)
 refine Zg (mk := fun g => sL g 0 1 1) F (d_lit (qs := #[(0, iI 1)]) (cs := #[iI 1]) (E := 3) F H rfl rfl (fun _ => by kernel_rfl)) fun g9 A w F H => ?_
 refine Zr (mk := fun v => v) F (d_append (i := 0) (j := 0) el_54 F H rfl rfl rfl rfl rfl rfl rfl rfl (by decide) (by decide)) fun v2 A w F H => ?_
 obtain ⟨g10, c3, rfl, hbc3, hdc3⟩ := H.open (i := 0) rfl (by decide)
 refine Av F fun A F => ?_
 refine Sx.nil (hK11 _ _ (Sx.plain ?_))
 refine Zn (iI 2) F fun A F => ?_
 refine Av F fun A F => ?_
 refine Sx.nil (Rs ?_)
 refine Sp fun _ kk => Av F fun A F => ?_
 refine Nl kk (Sx.seq fun K14 hK14 => condF F rfl (wp_exit ?_))
 try dsimp only [Exit.then, Exit.jump, Exit.noGoto]
 refine exit_here (hK3 _ _ (Sp fun _ kk => ?_))
 iterate 2 (refine Av F ?_; intro A F)
 refine Nl kk (Wr (ret1 F Tryz.results82 (res_tmp F rfl) ?_))
 exact ⟨_, rfl, g10, c3, (by omega), rfl, H.pickN 5 2 [4] [1, 0]⟩
theorem cx106 (H : Sx.Own w0 w (Bt g1 (L194 g1) :: bs) rs K) : Cr 124 #[pT g1 0] w0 w (.agg #[iU 0, iU 1]) (Bt g1 (L194 g1) :: bs) rs K := by
 refine En Tryz.func124 Tryz.ntmps124 fun A F => ?_
 refine Sp fun _ kk => Zb F (d_alloc H rfl [iU 0, iU 0] zero_26) fun g2 A w F H => ?_
 refine Nl kk (Sp fun _ kk => ?_)
 iterate 4 (refine Av F ?_; intro A F)
 refine Zs 0 [iU 0, iU 1] sz_26 F H fun A w F H => ?_
 refine Nl kk (Wr (ret1 F Tryz.results124 (res_row (i := 0) (xs := [iU 0, iU 1]) rw_26 F H rfl rfl rfl rfl) ?_))
 exact ⟨_, rfl, rfl, H.pickN 2 0 [1] []⟩
abbrev L198 : Value := .agg #[iU 0, iU 1, iU 0, iU 4611686018427387904]
abbrev L199 : List Value := [iU 0, iU 1, iU 0, iU 4611686018427387904]
theorem cx107 (H : Sx.Own w0 w (Bt g1 (L185 g2) :: Bt g2 (L194 g2) :: bs) rs K) : Cr 84 #[pT g1 0] w0 w L198 (Bt g1 (L185 g2) :: Bt g2 (L194 g2) :: bs) rs K := by
 refine En Tryz.func84 Tryz.ntmps84 fun A F => ?_
 refine Sp fun _ kk => Zb F (d_alloc H rfl [iU 0, iU 0, iU 0, iU 0] zero_79) fun g3 A w F H => ?_
 refine Nl kk (Sx.seq fun K2 hK2 => ?_)
 have F := F.tq [(0, pT g1 0), (2, pT g3 0)] rfl
 refine Dn F [some (pT g1 0), some (pT g1 0), some (pT g1 0), some (pT g2 0), some (.agg #[iU 0, iU 1]), some (pT g1 0), some (pT g1 0), some (pT g1 1), some (L177), some (L198), none] (fun L A w => Sx.Own w0 w (Bt g3 (cond (L 10) L199 [iU 0, iU 0, iU 0, iU 0]) :: Bt g1 (L185 g2) :: Bt g2 (L194 g2) :: bs) rs K) (H.drew.padG [] [] rfl rfl) ?_ ?_
 ·refine ⟨?_, ?_, ?_, ?_, ?_, ?_, ?_, ?_, ?_, ?_, ?_, trivial⟩
  ·exact Sa
  ·exact Sa
  ·exact Sa
  ·exact SV (fun _ _ _ F H => Ld 1 one_220 F H)
  ·intro L A w up hun hd F H
   have f10 : L 10 = false := up 10 4 rfl hun
   rw [f10] at H
   have H : Sx.Own w0 w (Bt g3 [iU 0, iU 0, iU 0, iU 0] :: Bt g1 (L185 g2) :: Bt g2 (L194 g2) :: bs) rs K := H
   have H := H.pickN 3 0 [2, 0, 1] []
   refine step_on rfl (Do if_124 F (cx106 H)) ?_
   rintro xv w' ⟨hx, H⟩
   have H := H.pickN 3 0 [1, 2, 0] []
   exact ⟨Cs hx, (by show Sx.Own _ _ _ _ _; rw [show Inv.add L 4 10 = false from f10]; exact H)⟩
  ·exact Sa
  ·exact Sa
  ·exact Sa
  ·exact SV (fun _ _ _ F H => Lr 1 [iU 0, iU 4611686018427387904] rw_26 F H)
  ·exact SV (fun _ _ _ F _ => d_build (qs := #[(0, .agg #[iU 0, iU 1]), (1, L177)]) (v := L198) F rfl rfl (by kernel_rfl))
  ·intro L A w up hun hd F H
   have f10 : L 10 = false := hun
   rw [f10] at H
   refine step_on rfl (d_store (i := 0) (xs := L199) (us := L199) sz_79 F H rfl rfl rfl rfl rfl rfl rfl (Nat.le_of_ble_eq_true rfl) rfl) ?_
   intro xv w' H
   exact ⟨Cn, H⟩
 ·intro L A w hL F H
  have t10 : L 10 = true := hL 10 rfl
  rw [t10] at H
  have H := H.pickN 3 0 [0, 1, 2] []
  have F := F.tq [(2, pT g3 0)] rfl
  refine hK2 _ _ (Wr (ret1 F Tryz.results84 (res_row (i := 0) (xs := L199) rw_79 F H rfl rfl rfl rfl) ?_))
  exact ⟨_, rfl, rfl, H.pickN 3 0 [1, 2] []⟩
theorem cx108 (H : Sx.Own w0 w bs rs K) : Cr 152 #[.agg #[iI 1, pT g1 0], iI 1] w0 w (iI 0) bs rs K := by
 refine En Tryz.func152 Tryz.ntmps152 fun A F => ?_
 refine Sp fun _ kk => Zb F (d_box F H rfl rfl [iI 1, pT g1 0] rfl) fun g2 A w F H => ?_
 refine Av F fun A F => ?_
 refine Nl kk (Sp fun _ kk => ?_)
 iterate 3 (refine Av F ?_; intro A F)
 refine Zv F (d_max (r := 1) F rfl rfl rfl (by decide)) fun A F => ?_
 refine Zv F (d_min (r := 1) F rfl rfl rfl (by decide)) fun A F => ?_
 refine Zn (iI 0) F fun A F => ?_
 refine Av F fun A F => ?_
 refine Nl kk (Wr (ret1 F Tryz.results152 (res_tmp F rfl) ?_))
 exact ⟨_, rfl, rfl, H.pickN 1 0 [] []⟩
theorem cx109 (H : Sx.Own w0 w bs rs K) : Cr 152 #[.agg #[iI 0, pT g1 0], iI 1] w0 w (iI (-1)) bs rs K := by
 refine En Tryz.func152 Tryz.ntmps152 fun A F => ?_
 refine Sp fun _ kk => Zb F (d_box F H rfl rfl [iI 0, pT g1 0] rfl) fun g2 A w F H => ?_
 refine Av F fun A F => ?_
 refine Nl kk (Sp fun _ kk => ?_)
 iterate 3 (refine Av F ?_; intro A F)
 refine Zv F (d_max (r := 1) F rfl rfl rfl (by decide)) fun A F => ?_
 refine Zv F (d_min (r := 1) F rfl rfl rfl (by decide)) fun A F => ?_
 refine Zn (iI (-1)) F fun A F => ?_
 refine Av F fun A F => ?_
 refine Nl kk (Wr (ret1 F Tryz.results152 (res_tmp F rfl) ?_))
 exact ⟨_, rfl, rfl, H.pickN 1 0 [] []⟩
theorem cx110 (hbc1 : 2 ≤ c1) (H : Sx.Own w0 w (bs) (⟨true, sL g1 0 2 c1, 217, 2, 2, [iI 0, pT g2 0, iI 1, pT g3 0]⟩ :: rs) K) : Cr 151 #[sL g1 0 2 c1, iI 1, .func (.func 152) #[] #[]] w0 w (.tuple #[iI 1, bT]) (bs) (⟨true, sL g1 0 2 c1, 217, 2, 2, [iI 0, pT g2 0, iI 1, pT g3 0]⟩ :: rs) K := by
 refine En Tryz.func151 Tryz.ntmps151 fun A F => ?_
 refine Sp fun _ kk => ?_
 iterate 2 (refine Av F ?_; intro A F)
 refine Nl kk (Sp fun _ kk => Av F fun A F => ?_)
 refine Zv F (d_lenS el_213 F rfl rfl) fun A F => ?_
 refine Av F fun A F => ?_
 refine Nl kk (Sp fun _ kk => ?_)
 iterate 3 (refine Av F ?_; intro A F)
 refine Nl kk (Sx.seq fun K4 hK4 => wp_block (wp_loop_rounds 40 ?_))
 refine Rs ?_
 refine Sx.seq fun K5 hK5 => Sp fun _ kk => ?_
 iterate 3 (refine Av F ?_; intro A F)
 refine Nl kk (condT F rfl (wp_skip (hK5 _ _ (wp_block (Sp fun _ kk => ?_)))))
 iterate 2 (refine Av F ?_; intro A F)
 refine Zn (iI 2) F fun A F => ?_
 refine Zv F (d_conv (v := iU 2) F rfl rfl (by kernel_rfl)) fun A F => ?_
 refine Zn (iU 1) F fun A F => ?_
 refine Zv F (d_conv (v := iI 1) F rfl rfl (by kernel_rfl)) fun A F => ?_
 refine Av F fun A F => ?_
 refine Nl kk (Sp fun _ kk => ?_)
 iterate 3 (refine Av F ?_; intro A F)
 refine Zv F (d_ixZ (k := 1) (g := g1) (off := 0) (z := 2) el_213 F rfl rfl rfl rfl rfl (by omega)) fun A F => ?_
 refine Zv F (Lr 0 [iI 1, pT g3 0] rw_217 F (H.rowBox (i := 0) rfl)) fun A F => ?_
 refine Av F fun A F => ?_
 refine Zx F (d_callCO (fv := []) (vs := [.agg #[iI 1, pT g3 0], iI 1]) (cv := []) if_152 F rfl rfl rfl (cx108 H)) ?_
 rintro _ w ⟨rfl, H⟩ A F
 refine Av F fun A F => ?_
 refine Nl kk (condF F rfl (Sx.plain ?_))
 iterate 2 (refine Av F ?_; intro A F)
 refine Sx.nil (Rs ?_)
 refine Sx.seq fun K9 hK9 => Sp fun _ kk => ?_
 iterate 3 (refine Av F ?_; intro A F)
 refine Nl kk (condT F rfl (wp_skip (hK9 _ _ (wp_block (Sp fun _ kk => ?_)))))
 iterate 2 (refine Av F ?_; intro A F)
 refine Zn (iI 1) F fun A F => ?_
 refine Zv F (d_conv (v := iU 1) F rfl rfl (by kernel_rfl)) fun A F => ?_
 refine Zn (iU 0) F fun A F => ?_
 refine Zv F (d_conv (v := iI 0) F rfl rfl (by kernel_rfl)) fun A F => ?_
 refine Av F fun A F => ?_
 refine Nl kk (Sp fun _ kk => ?_)
 iterate 3 (refine Av F ?_; intro A F)
 refine Zv F (d_ixZ (k := 0) (g := g1) (off := 0) (z := 2) el_213 F rfl rfl rfl rfl rfl (by omega)) fun A F => ?_
 refine Zv F (Lr 0 [iI 0, pT g2 0] rw_217 F (H.rowBox (i := 0) rfl)) fun A F => ?_
 refine Av F fun A F => ?_
 refine Zx F (d_callCO (fv := []) (vs := [.agg #[iI 0, pT g2 0], iI 1]) (cv := []) if_152 F rfl rfl rfl (cx109 H)) ?_
 rintro _ w ⟨rfl, H⟩ A F
 refine Av F fun A F => ?_
 refine Nl kk (condT F rfl (Sx.plain ?_))
 refine Av F fun A F => ?_
 refine Zn (iI 1) F fun A F => ?_
 refine Av F fun A F => ?_
 refine Sx.nil (Rs ?_)
 refine Sx.seq fun K13 hK13 => Sp fun _ kk => ?_
 iterate 3 (refine Av F ?_; intro A F)
 refine Nl kk (condF F rfl (wp_exit ?_))
 try dsimp only [Exit.then, Exit.jump, Exit.noGoto]
 refine exit_here (hK4 _ _ (Sp fun _ kk => ?_))
 iterate 8 (refine Av F ?_; intro A F)
 refine Zv F (d_ixZ (k := 1) (g := g1) (off := 0) (z := 2) el_213 F rfl rfl rfl rfl rfl (by omega)) fun A F => ?_
 refine Zv F (Lr 0 [iI 1, pT g3 0] rw_217 F (H.rowBox (i := 0) rfl)) fun A F => ?_
 refine Av F fun A F => ?_
 refine Zx F (d_callCO (fv := []) (vs := [.agg #[iI 1, pT g3 0], iI 1]) (cv := []) if_152 F rfl rfl rfl (cx108 H)) ?_
 rintro _ w ⟨rfl, H⟩ A F
 iterate 4 (refine Av F ?_; intro A F)
 refine Nl kk (Wr (ret2 F Tryz.results151 (res_tmp F rfl) (res_tmp F rfl) ?_))
 exact ⟨_, rfl, rfl, H.pickN 0 1 [] [0]⟩
theorem cx111 (hbc1 : 2 ≤ c1) (H : Sx.Own w0 w (Bt g1 [sL g2 0 2 c1, iI 2] :: bs) (⟨true, sL g2 0 2 c1, 217, 2, 2, [iI 0, pT g3 0, iI 1, pT g4 0]⟩ :: rs) K) : Cr 123 #[pT g1 0, iI 1] w0 w (.tuple #[iI 1, bT]) (Bt g1 [sL g2 0 2 c1, iI 2] :: bs) (⟨true, sL g2 0 2 c1, 217, 2, 2, [iI 0, pT g3 0, iI 1, pT g4 0]⟩ :: rs) K := by
 refine En Tryz.func123 Tryz.ntmps123 fun A F => ?_
 refine Sp fun _ kk => ?_
 iterate 2 (refine Av F ?_; intro A F)
 refine Nl kk (Sp fun _ kk => ?_)
 iterate 5 (refine Av F ?_; intro A F)
 refine Zx F (Do if_151 F (cx110 (by omega) H)) ?_
 rintro _ w ⟨rfl, H⟩ A F
 iterate 4 (refine Av F ?_; intro A F)
 refine Nl kk (Wr (ret2 F Tryz.results123 (res_tmp F rfl) (res_tmp F rfl) ?_))
 exact ⟨_, rfl, rfl, H.pickN 1 1 [0] [0]⟩
theorem cx112 (hbc1 : 2 ≤ c1) (H : Sx.Own w0 w (Bt g1 [sL g2 0 2 c1, iI 2] :: bs) (⟨true, sL g2 0 2 c1, 217, 2, 2, [iI 0, pT g3 0, iI 1, pT g4 0]⟩ :: rs) K) : Cr 83 #[pT g1 0, iI 1] w0 w (.tuple #[pT g4 0, bT]) (Bt g1 [sL g2 0 2 c1, iI 2] :: bs) (⟨true, sL g2 0 2 c1, 217, 2, 2, [iI 0, pT g3 0, iI 1, pT g4 0]⟩ :: rs) K := by
 refine En Tryz.func83 Tryz.ntmps83 fun A F => ?_
 refine Sp fun _ kk => ?_
 iterate 2 (refine Av F ?_; intro A F)
 refine Nl kk (Sp fun _ kk => ?_)
 iterate 2 (refine Av F ?_; intro A F)
 refine Zx F (Do if_123 F (cx111 (by omega) H)) ?_
 rintro _ w ⟨rfl, H⟩ A F
 iterate 5 (refine Av F ?_; intro A F)
 refine Nl kk (Sx.seq fun K3 hK3 => Sp fun _ kk => Av F fun A F => ?_)
 refine Zv F (d_un (v := bF) F rfl rfl rfl) fun A F => ?_
 refine Nl kk (condF F rfl (wp_skip (hK3 _ _ (Sp fun _ kk => ?_))))
 iterate 5 (refine Av F ?_; intro A F)
 refine Zv F (d_ixZ (k := 1) (g := g2) (off := 0) (z := 2) el_213 F rfl rfl rfl rfl rfl (by omega)) fun A F => ?_
 refine Av F fun A F => ?_
 refine Zv F (Ld 0 one_161 F (H.rowBox (i := 0) rfl)) fun A F => ?_
 iterate 2 (refine Av F ?_; intro A F)
 refine Nl kk (Wr (ret2 F Tryz.results83 (res_tmp F rfl) (res_tmp F rfl) ?_))
 exact ⟨_, rfl, rfl, H.pickN 1 1 [0] [0]⟩
theorem cx113 (H : Sx.Own w0 w (Bt g1 L183 :: bs) rs K) : Cr 124 #[pT g1 0] w0 w L177 (Bt g1 L183 :: bs) rs K := by
 refine En Tryz.func124 Tryz.ntmps124 fun A F => ?_
 refine Sp fun _ kk => Zb F (d_alloc H rfl [iU 0, iU 0] zero_26) fun g2 A w F H => ?_
 refine Nl kk (Sp fun _ kk => ?_)
 iterate 4 (refine Av F ?_; intro A F)
 refine Zs 0 [iU 0, iU 4611686018427387904] sz_26 F H fun A w F H => ?_
 refine Nl kk (Wr (ret1 F Tryz.results124 (res_row (i := 0) (xs := [iU 0, iU 4611686018427387904]) rw_26 F H rfl rfl rfl rfl) ?_))
 exact ⟨_, rfl, rfl, H.pickN 2 0 [1] []⟩
theorem cx114 (H : Sx.Own w0 w (Bt g1 (L172 g2) :: Bt g2 L183 :: bs) rs K) : Cr 84 #[pT g1 0] w0 w L179 (Bt g1 (L172 g2) :: Bt g2 L183 :: bs) rs K := by
 refine En Tryz.func84 Tryz.ntmps84 fun A F => ?_
 refine Sp fun _ kk => Zb F (d_alloc H rfl [iU 0, iU 0, iU 0, iU 0] zero_79) fun g3 A w F H => ?_
 refine Nl kk (Sx.seq fun K2 hK2 => ?_)
 have F := F.tq [(0, pT g1 0), (2, pT g3 0)] rfl
 refine Dn F [some (pT g1 0), some (pT g1 0), some (pT g1 0), some (pT g2 0), some (L177), some (pT g1 0), some (pT g1 0), some (pT g1 1), some (L165), some (L179), none] (fun L A w => Sx.Own w0 w (Bt g3 (cond (L 10) L180 [iU 0, iU 0, iU 0, iU 0]) :: Bt g1 (L172 g2) :: Bt g2 L183 :: bs) rs K) (H.drew.padG [] [] rfl rfl) ?_ ?_
 ·refine ⟨?_, ?_, ?_, ?_, ?_, ?_, ?_, ?_, ?_, ?_, ?_, trivial⟩
  ·exact Sa
  ·exact Sa
  ·exact Sa
  ·exact SV (fun _ _ _ F H => Ld 1 one_220 F H)
  ·intro L A w up hun hd F H
   have f10 : L 10 = false := up 10 4 rfl hun
   rw [f10] at H
   have H : Sx.Own w0 w (Bt g3 [iU 0, iU 0, iU 0, iU 0] :: Bt g1 (L172 g2) :: Bt g2 L183 :: bs) rs K := H
   have H := H.pickN 3 0 [2, 0, 1] []
   refine step_on rfl (Do if_124 F (cx113 H)) ?_
   rintro xv w' ⟨hx, H⟩
   have H := H.pickN 3 0 [1, 2, 0] []
   exact ⟨Cs hx, (by show Sx.Own _ _ _ _ _; rw [show Inv.add L 4 10 = false from f10]; exact H)⟩
  ·exact Sa
  ·exact Sa
  ·exact Sa
  ·exact SV (fun _ _ _ F H => Lr 1 [iU 0, iU 9223372036854775808] rw_26 F H)
  ·exact SV (fun _ _ _ F _ => d_build (qs := #[(0, L177), (1, L165)]) (v := L179) F rfl rfl (by kernel_rfl))
  ·intro L A w up hun hd F H
   have f10 : L 10 = false := hun
   rw [f10] at H
   refine step_on rfl (d_store (i := 0) (xs := L180) (us := L180) sz_79 F H rfl rfl rfl rfl rfl rfl rfl (Nat.le_of_ble_eq_true rfl) rfl) ?_
   intro xv w' H
   exact ⟨Cn, H⟩
 ·intro L A w hL F H
  have t10 : L 10 = true := hL 10 rfl
  rw [t10] at H
  have H := H.pickN 3 0 [0, 1, 2] []
  have F := F.tq [(2, pT g3 0)] rfl
  refine hK2 _ _ (Wr (ret1 F Tryz.results84 (res_row (i := 0) (xs := L180) rw_79 F H rfl rfl rfl rfl) ?_))
  exact ⟨_, rfl, rfl, H.pickN 3 0 [1, 2] []⟩
abbrev L200 : List Value := [iU 0, iU 1, iU 0, iU 4611686018427387904, iU 0, iU 4611686018427387904, iU 0, iU 9223372036854775808]
theorem cx115 (hbc1 : 2 ≤ c1) (H : Sx.Own w0 w (Bt g1 [pT g2 0, iI 1, iU 0] :: Bt g2 [sL g3 0 2 c1, iI 2] :: Bt g4 (L185 g5) :: Bt g6 (L172 g7) :: Bt g5 (L194 g5) :: Bt g7 L183 :: bs) (⟨true, sL g3 0 2 c1, 217, 2, 2, [iI 0, pT g4 0, iI 1, pT g6 0]⟩ :: rs) K) : Cq 56 #[pT g1 0] w fun x w' => ∃ g12 c4 : Nat, 2 ≤ c4 ∧ x = sL g12 0 2 c4 ∧ Sx.Own w0 w' (Bt g1 [pT g2 0, iI 1, iU 0] :: Bt g2 [sL g3 0 2 c1, iI 2] :: Bt g4 (L185 g5) :: Bt g6 (L172 g7) :: Bt g5 (L194 g5) :: Bt g7 L183 :: bs) (⟨true, sL g3 0 2 c1, 217, 2, 2, [iI 0, pT g4 0, iI 1, pT g6 0]⟩ :: ⟨true, sL g12 0 2 c4, 79, 4, 2, L200⟩ :: rs) K := by
 refine En Tryz.func56 Tryz.ntmps56 fun A F => ?_
 refine Sp fun _ kk => Av F fun A F => ?_
 refine Nl kk (Sp fun _ kk => Av F fun A F => ?_)
 refine Nl kk (Sx.seq fun K3 hK3 => Sp fun _ kk => ?_)
 iterate 4 (refine Av F ?_; intro A F)
 have H := H.pickN 6 1 [1, 0, 2, 3, 4, 5] [0]
 refine Zx F (Do if_82 F (cx105 (by omega) H)) ?_
 rintro _ w ⟨g8, c2, hbc2, rfl, H⟩ A F
 refine Zv F (d_lenS el_54 F rfl rfl) fun A F => ?_
 refine Av F fun A F => ?_
 refine Nl kk (wp_block (wp_loop_rounds 40 ?_))
 refine Rs ?_
 refine Sp fun _ kk => Av F fun A F => ?_
 refine Nl kk (Sx.seq fun K6 hK6 => condT F rfl (wp_skip (hK6 _ _ (Sx.seq fun K7 hK7 => wp_block (Sp fun _ kk => Zv F (d_ix1 (k := 0) (g := g8) (off := 0) el_54 F rfl rfl rfl rfl rfl (by omega)) fun A F => ?_)))))
 refine Zv F (Ld 0 one_3 F (H.rowBox (i := 1) rfl)) fun A F => ?_
 refine Av F fun A F => ?_
 refine Nl kk (Sp fun _ kk => ?_)
 iterate 5 (refine Av F ?_; intro A F)
 refine Zx F (Do if_83 F (cx89 (by omega) H)) ?_
 rintro _ w ⟨rfl, H⟩ A F
 iterate 5 (refine Av F ?_; intro A F)
 refine Nl kk (Sx.plain ?_)
 iterate 2 (refine Av F ?_; intro A F)
 have H := H.pickN 6 2 [2, 4, 0, 1, 3, 5] [0, 1]
 refine Zx F (Do if_84 F (cx107 H)) ?_
 rintro _ w ⟨rfl, H⟩ A F
 refine Zg (mk := fun g => sL g 0 1 1) F (d_lit (qs := #[(0, L198)]) (cs := #[iU 0, iU 1, iU 0, iU 4611686018427387904]) (E := 79) F H rfl rfl (fun _ => by kernel_rfl)) fun g9 A w F H => ?_
 have H := Sx.Own.nilR H 79 4
 refine Zr (mk := fun v => v) F (d_append (i := 0) (j := 0) el_74 F H rfl rfl rfl rfl rfl rfl rfl rfl (by decide) (by decide)) fun v1 A w F H => ?_
 obtain ⟨g10, c3, rfl, hbc3, hdc3⟩ := H.open (i := 0) rfl (by decide)
 refine Av F fun A F => ?_
 refine Sx.nil (hK7 _ _ (Sx.plain ?_))
 refine Zn (iI 1) F fun A F => ?_
 refine Av F fun A F => ?_
 refine Sx.nil (Rs ?_)
 refine Sp fun _ kk => Av F fun A F => ?_
 refine Nl kk (Sx.seq fun K11 hK11 => condT F rfl (wp_skip (hK11 _ _ (Sx.seq fun K12 hK12 => wp_block (Sp fun _ kk => Zv F (d_ix1 (k := 1) (g := g8) (off := 0) el_54 F rfl rfl rfl rfl rfl (by omega)) fun A F => ?_)))))
 refine Zv F (Ld 0 one_3 F (H.rowBox (i := 2) rfl)) fun A F => ?_
 refine Av F fun A F => ?_
 refine Nl kk (Sp fun _ kk => ?_)
 iterate 5 (refine Av F ?_; intro A F)
 have H := H.pickN 7 3 [3, 0, 1, 2, 4, 5, 6] [1, 0, 2]
 refine Zx F (Do if_83 F (cx112 (by omega) H)) ?_
 rintro _ w ⟨rfl, H⟩ A F
 iterate 5 (refine Av F ?_; intro A F)
 refine Nl kk (Sx.plain ?_)
 iterate 2 (refine Av F ?_; intro A F)
 have H := H.pickN 7 3 [5, 6, 0, 1, 2, 3, 4] [0, 1, 2]
 refine Zx F (Do if_84 F (cx114 H)) ?_
 rintro _ w ⟨rfl, H⟩ A F
 refine Zg (mk := fun g => sL g 0 1 1) F (d_lit (qs := #[(0, L179)]) (cs := #[iU 0, iU 4611686018427387904, iU 0, iU 9223372036854775808]) (E := 79) F H rfl rfl (fun _ => by kernel_rfl)) fun g11 A w F H => ?_
 refine Zr (mk := fun v => v) F (d_append (i := 1) (j := 0) el_74 F H rfl rfl rfl rfl rfl rfl rfl rfl (by decide) (by decide)) fun v2 A w F H => ?_
 obtain ⟨g12, c4, rfl, hbc4, hdc4⟩ := H.open (i := 1) rfl (by decide)
 refine Av F fun A F => ?_
 refine Sx.nil (hK12 _ _ (Sx.plain ?_))
 refine Zn (iI 2) F fun A F => ?_
 refine Av F fun A F => ?_
 refine Sx.nil (Rs ?_)
 refine Sp fun _ kk => Av F fun A F => ?_
 refine Nl kk (Sx.seq fun K16 hK16 => condF F rfl (wp_exit ?_))
 try dsimp only [Exit.then, Exit.jump, Exit.noGoto]
 refine exit_here (hK3 _ _ (Sp fun _ kk => ?_))
 iterate 2 (refine Av F ?_; intro A F)
 refine Nl kk (Wr (ret1 F Tryz.results56 (res_tmp F rfl) ?_))
 exact ⟨_, rfl, g12, c4, (by omega), rfl, H.pickN 8 3 [7, 3, 5, 1, 6, 2] [0, 1]⟩
end
section
open Sx
variable {w0 w : World} {bs : List Sx.Bx} {rs : List Sx.Rx} {K : Nat → Option Obj} {g1 g2 g3 g4 g5 g6 g7 g8 g9 g10 g11 g12 g13 g14 g15 g16 g17 g18 g19 g20 g21 g22 g23 g24 c1 c2 c3 c4 c5 c6 c7 c8 c9 : Nat} {v1 v2 v3 v4 v5 v6 v7 v8 v9 : Value} {n b : BitVec 64} {at' : BitVec 128} {kd lf : BitVec 8}
theorem cx116 (hbc1 : 2 ≤ c1) (H : Sx.Own w0 w (Bt g1 [pT g2 0] :: Bt g2 [pT g3 0, iI 1, iU 0] :: Bt g3 [sL g4 0 2 c1, iI 2] :: Bt g5 (L185 g6) :: Bt g7 (L172 g8) :: Bt g6 (L194 g6) :: Bt g8 L183 :: bs) (⟨true, sL g4 0 2 c1, 217, 2, 2, [iI 0, pT g5 0, iI 1, pT g7 0]⟩ :: rs) K) : Cq 21 #[pT g1 0] w fun x w' => ∃ g9 c2 : Nat, 2 ≤ c2 ∧ x = sL g9 0 2 c2 ∧ Sx.Own w0 w' (Bt g1 [pT g2 0] :: Bt g2 [pT g3 0, iI 1, iU 0] :: Bt g3 [sL g4 0 2 c1, iI 2] :: Bt g5 (L185 g6) :: Bt g7 (L172 g8) :: Bt g6 (L194 g6) :: Bt g8 L183 :: bs) (⟨true, sL g4 0 2 c1, 217, 2, 2, [iI 0, pT g5 0, iI 1, pT g7 0]⟩ :: ⟨true, sL g9 0 2 c2, 79, 4, 2, L200⟩ :: rs) K := by
 refine En Tryz.func21 Tryz.ntmps21 fun A F => ?_
 refine Sp fun _ kk => Av F fun A F => ?_
 refine Nl kk (Sx.seq fun K2 hK2 => Sp fun _ kk => Av F fun A F => ?_)
 refine Zx F (Do if_53 F (cx64 H)) ?_
 rintro _ w ⟨rfl, H⟩ A F
 refine Nl kk (condF F rfl (wp_skip (hK2 _ _ (Sp fun _ kk => ?_))))
 iterate 4 (refine Av F ?_; intro A F)
 have H := H.pickN 7 1 [1, 2, 3, 4, 5, 6, 0] [0]
 refine Zx F (Do if_56 F (cx115 (by omega) H)) ?_
 rintro _ w ⟨g9, c2, hbc2, rfl, H⟩ A F
 refine Av F fun A F => ?_
 refine Nl kk (Wr (ret1 F Tryz.results21 (res_tmp F rfl) ?_))
 exact ⟨_, rfl, g9, c2, (by omega), rfl, H.pickN 7 2 [6, 0, 1, 2, 3, 4, 5] [0, 1]⟩
theorem cx117 (H : Sx.Own w0 w bs rs K) : Cr 5 #[] w0 w bT bs rs K := by
 refine En Tryz.func5 Tryz.ntmps5 fun A F => ?_
 refine Sp fun _ kk => Av F fun A F => ?_
 refine Nl kk (Sp fun _ kk => Zv F (d_build (qs := #[(0, iI 0), (3, iI 1)]) (v := L144) F rfl rfl (by kernel_rfl)) fun A F => ?_)
 refine Zv F (d_build (qs := #[(0, iI 1)]) (v := L154) F rfl rfl (by kernel_rfl)) fun A F => ?_
 refine Zv F (d_build (qs := #[(0, iI 3)]) (v := L156) F rfl rfl (by kernel_rfl)) fun A F => ?_
 refine Zr (mk := fun v => v) F (d_litR (qs := #[(0, L144), (1, L154), (2, L156)]) (cs := #[iI 0, iI 0, iI 0, iI 1, iU 0, iU 0, iU 0, iU 0, nS, iI 1, iI 0, iI 0, iI 0, iU 0, iU 0, iU 0, iU 0, nS, iI 3, iI 0, iI 0, iI 0, iU 0, iU 0, iU 0, iU 0, nS]) (E := 71) (z := 9) F H rfl rfl (fun _ => by kernel_rfl) rfl (by decide)) fun v1 A w F H => ?_
 obtain ⟨g1, c1, rfl, hbc1, hdc1⟩ := H.open (i := 0) rfl (by decide)
 refine Zx F (Do if_23 F (cx20 (by omega) H)) ?_
 rintro _ w ⟨g2, c2, hbc2, rfl, H⟩ A F
 iterate 5 (refine Av F ?_; intro A F)
 refine Nl kk (Sp fun _ kk => Av F fun A F => ?_)
 have H := H.pickN 0 2 [] [1, 0]
 refine Zx F (Do if_24 F (cx46 (by omega) H)) ?_
 rintro _ w ⟨g3, c3, hbc3, rfl, H⟩ A F
 iterate 5 (refine Av F ?_; intro A F)
 refine Nl kk (Sp fun _ kk => Zx F (Do if_18 F (cx47 H)) ?_)
 rintro _ w ⟨g4, rfl, H⟩ A F
 refine Av F fun A F => ?_
 refine Nl kk (Sx.seq fun K5 hK5 => Sp fun _ kk => ?_)
 iterate 4 (refine Av F ?_; intro A F)
 refine Zv F (d_un (v := bF) F rfl rfl rfl) fun A F => ?_
 iterate 3 (refine Av F ?_; intro A F)
 refine Zn bF F fun A F => ?_
 refine Av F fun A F => ?_
 refine Nl kk (condF F rfl (wp_skip (hK5 _ _ (Sp fun _ kk => ?_))))
 iterate 2 (refine Av F ?_; intro A F)
 refine Zx F (Do if_25 F (cx104 (by omega) H)) ?_
 rintro _ w ⟨g5, c4, g6, g7, g8, c5, g9, g10, g11, g12, hbc4, hbc5, rfl, H⟩ A F
 refine Av F fun A F => ?_
 refine Nl kk (Sp fun _ kk => Av F fun A F => ?_)
 refine Zv F (d_lenS el_86 F rfl rfl) fun A F => ?_
 iterate 3 (refine Av F ?_; intro A F)
 refine Zv F (d_ixZ (k := 1) (g := g5) (off := 0) (z := 5) el_86 F rfl rfl rfl rfl rfl (by omega)) fun A F => ?_
 refine Av F fun A F => ?_
 refine Zv F (Ld 0 one_3 F (H.rowBox (i := 1) rfl)) fun A F => ?_
 iterate 4 (refine Av F ?_; intro A F)
 refine Zv F (d_ixZ (k := 2) (g := g5) (off := 0) (z := 5) el_86 F rfl rfl rfl rfl rfl (by omega)) fun A F => ?_
 refine Av F fun A F => ?_
 refine Zv F (Ld 0 one_22 F (H.rowBox (i := 1) rfl)) fun A F => ?_
 iterate 4 (refine Av F ?_; intro A F)
 have H := H.pickN 7 4 [0, 1, 2, 3, 4, 5, 6] [2, 0, 1, 3]
 refine Zx F (Do if_21 F (cx116 (by omega) H)) ?_
 rintro _ w ⟨g13, c6, hbc6, rfl, H⟩ A F
 refine Zv F (d_lenS el_74 F rfl rfl) fun A F => ?_
 iterate 3 (refine Av F ?_; intro A F)
 refine Nl kk (Wr (ret1 F Tryz.results5 (res_tmp F rfl) ?_))
 exact ⟨_, rfl, rfl, H.pickN 7 5 [] []⟩
end
theorem awake_b : Bd.Awake := fun w => (cx117 (K := fun _ => none) (Sx.Own.start w)).mono fun e w' ⟨x, he, hx, H⟩ => ⟨by rw [he, hx], H.below⟩
theorem top_bounded_n (k : Nat) (hk : k < 256) (n : BitVec 64) (a : BitVec 128) (l : Nat) (hl : l < 256) (b : BitVec 64) (w : World) : Calls Tryz.prog 4 #[.int .u8 k, .int .u64 n.toNat, .agg #[.int .u64 ((Wd.hi a).toNat), .int .u64 ((Wd.lo a).toNat)], .int .u8 l, .int .u64 b.toNat] w fun e w' => e = .returned (.bool true) ∧ Below w.heap.size w w' := by
  have h := top_bounded awake_b (BitVec.ofNat 8 k) n a (BitVec.ofNat 8 l) b w
  rw [BitVec.toNat_ofNat, BitVec.toNat_ofNat, Nat.mod_eq_of_lt hk, Nat.mod_eq_of_lt hl] at h
  exact h
end Go.Proofs.YteecadoakmdibaaGreat
