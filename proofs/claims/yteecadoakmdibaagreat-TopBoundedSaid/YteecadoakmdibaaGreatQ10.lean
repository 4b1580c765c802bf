/- What the proof of TopBounded leans on: part 10. -/
import Derived.Test.YteecadoakmdibaaGreatQ2
import Derived.Test.YteecadoakmdibaaGreatQ5
import Derived.Test.YteecadoakmdibaaGreatQ7
import Derived.Test.YteecadoakmdibaaGreatQ8
import Derived.Test.YteecadoakmdibaaGreatQ9
set_option maxRecDepth 100000
set_option maxHeartbeats 4000000
namespace Go.Proofs.YteecadoakmdibaaGreat
open Go Go.RowKit
section
open Sx
variable {w0 w : World} {bs : List Sx.Bx} {rs : List Sx.Rx} {K : Nat → Option Obj} {g1 g2 g3 g4 g5 g6 g7 g8 g9 g10 g11 g12 g13 g14 g15 g16 g17 g18 g19 g20 g21 g22 g23 g24 c1 c2 c3 c4 c5 c6 c7 c8 c9 : Nat} {v1 v2 v3 v4 v5 v6 v7 v8 v9 : Value} {n b : BitVec 64} {at' : BitVec 128} {kd lf : BitVec 8} {G : Bd.Gen}
theorem cx5037 (hbc1 : 1 ≤ c1) (hb : b.toNat ≠ 0) (hat : at'.toNat ≤ G.lim.toNat) (H : Sx.Own w0 w (Bt g1 [pT g2 0] :: Bt g2 [pT g3 0, iI G.k, uN n] :: Bt g3 [sL g4 0 1 c1, iI 1] :: Bt g5 [pT g6 0, uH G.lim, uL G.lim] :: Bt g6 (L116 G n at') :: bs) (⟨true, sL g4 0 1 c1, 217, 2, 1, [iI 0, pT g5 0]⟩ :: rs) K) : Cq 19 #[pT g1 0, (L134 b)] w fun x w' => ∃ (a1 : BitVec 64) (j1 : Int) (o1 : BitVec 128) (y1 : Nat → BitVec 64) (v1 : Value) (z1 : Gs), Bd.Told G n at' b a1 j1 o1 ∧ x = .agg #[iI 0, uN a1, nS, nS, iI j1] ∧ Sx.Own w0 w' (Bt g1 [pT g2 0] :: Bt g2 [pT g3 0, iI G.k, uN n] :: Bt g3 [sL g4 0 1 c1, iI 1] :: Bt g5 [pT g6 0, uH G.lim, uL G.lim] :: Bt g6 (L96 G n o1 y1 v1 z1) :: bs) (⟨true, sL g4 0 1 c1, 217, 2, 1, [iI 0, pT g5 0]⟩ :: rs) K := by
 refine En Tryz.func19 Tryz.ntmps19 fun A F => ?_
 refine Sp fun _ kk => Zb F (d_box F H rfl rfl (L135 b) rfl) fun g7 A w F H => ?_
 refine Zb F (d_alloc H rfl [iI 0, iU 0, nS, nS, iI 0] zero_68) fun g8 A w F H => ?_
 refine Nl kk (Sx.seq fun K2 hK2 => ask_map F H ?_)
 intro A w mr mo10 hmK hmo F H
 refine hK2 _ _ (Sp fun _ kk => ?_)
 iterate 3 (refine Av F ?_; intro A F)
 refine Zv F (d_lookup (kt := 3) (et := 117) (z := .nilFunc) (v := .func (.func 50) #[] #[]) (b := true) (by kernel_rfl) (by kernel_rfl) (fun _ => by kernel_rfl) F H rfl rfl rfl (if_pos rfl) hmo rfl) fun A F => ?_
 have H := H.unkeep1 hmK
 iterate 5 (refine Av F ?_; intro A F)
 refine Nl kk (Sx.seq fun K4 hK4 => wp_block (Sp fun _ kk => Av F fun A F => ?_))
 refine Zv F (d_un (v := bF) F rfl rfl rfl) fun A F => ?_
 refine Av F fun A F => ?_
 refine Nl kk (condF F rfl (Sp fun _ kk => Av F fun A F => ?_))
 have H := H.pickN 7 1 [2, 0, 1, 3, 4, 5, 6] [0]
 refine Zx F (Do if_53 F (cx5018 H)) ?_
 rintro _ w ⟨rfl, H⟩ A F
 refine Av F fun A F => ?_
 refine su F (wanted_off rfl (guard_known (d := 24) (b := false) F rfl rfl) rfl) rfl (by decide) (fun A F => ?_)
 refine su F (wanted_off rfl (guard_known (d := 24) (b := false) F rfl rfl) rfl) rfl (by decide) (fun A F => ?_)
 refine su F (wanted_off rfl (guard_known (d := 24) (b := false) F rfl rfl) rfl) rfl (by decide) (fun A F => ?_)
 iterate 2 (refine Av F ?_; intro A F)
 refine su F (wanted_off rfl (guard_known (d := 29) (b := false) F rfl rfl) rfl) rfl (by decide) (fun A F => ?_)
 refine su F (wanted_off rfl (guard_known (d := 29) (b := false) F rfl rfl) rfl) rfl (by decide) (fun A F => ?_)
 refine su F (wanted_off rfl (guard_known (d := 29) (b := false) F rfl rfl) rfl) rfl (by decide) (fun A F => ?_)
 iterate 2 (refine Av F ?_; intro A F)
 refine Nl kk (condF F rfl (wp_skip (hK4 _ _ (Sp fun _ kk => ?_))))
 iterate 3 (refine Av F ?_; intro A F)
 have H := H.pickN 7 1 [0, 3, 4, 5, 6, 1, 2] [0]
 refine Zx F (d_callCO (fv := []) (vs := [pT g1 0, (L134 b)]) (cv := []) if_50 F rfl rfl rfl (cx5036 (by omega) hb hat H)) ?_
 rintro _ w ⟨a1, j1, o1, y1, v1, z1, pp1, rfl, H⟩ A F
 refine Zs 5 [iI 0, uN a1, nS, nS, iI j1] sz_68 F H fun A w F H => ?_
 refine Nl kk (Wr (ret1 F Tryz.results19 (res_row (i := 5) (xs := [iI 0, uN a1, nS, nS, iI j1]) rw_68 F H rfl rfl rfl rfl) ?_))
 exact ⟨_, rfl, a1, j1, o1, y1, v1, z1, pp1, rfl, H.pickN 7 1 [0, 1, 2, 3, 4] [0]⟩
theorem cx5038 (hbc1 : 1 ≤ c1) (H : Sx.Own w0 w (Bt g1 [sL g2 0 1 c1, iI 1] :: bs) (⟨true, sL g2 0 1 c1, 217, 2, 1, [iI 0, pT g3 0]⟩ :: rs) K) : Cq 82 #[pT g1 0] w fun x w' => ∃ g6 c2 : Nat, 1 ≤ c2 ∧ x = sL g6 0 1 c2 ∧ Sx.Own w0 w' (Bt g1 [sL g2 0 1 c1, iI 1] :: bs) (⟨true, sL g2 0 1 c1, 217, 2, 1, [iI 0, pT g3 0]⟩ :: ⟨true, sL g6 0 1 c2, 3, 1, 1, [iI 0]⟩ :: rs) K := by
 refine En Tryz.func82 Tryz.ntmps82 fun A F => ?_
 refine Sp fun _ kk => Av F fun A F => ?_
 refine Nl kk (Sp fun _ kk => Av F fun A F => ?_)
 refine Nl kk (Sx.seq fun K3 hK3 => Sp fun _ kk => ?_)
 iterate 4 (refine Av F ?_; intro A F)
 refine Zv F (d_lenS el_213 F rfl rfl) fun A F => ?_
 refine Av F fun A F => ?_
 refine Nl kk (wp_block (wp_loop_rounds 40 ?_))
 refine Rs ?_
 refine Sp fun _ kk => Av F fun A F => ?_
 refine Nl kk (Sx.seq fun K6 hK6 => condT F rfl (wp_skip (hK6 _ _ (Sx.seq fun K7 hK7 => wp_block (Sp fun _ kk => Zv F (d_ixZ (k := 0) (g := g2) (off := 0) (z := 2) el_213 F rfl rfl rfl rfl rfl (by omega)) fun A F => ?_)))))
 refine Zv F (Lr 0 [iI 0, pT g3 0] rw_217 F (H.rowBox (i := 0) rfl)) fun A F => ?_
 refine Zb F (d_alloc H rfl [iI 0, nP] zero_217) fun g4 A w F H => ?_
 refine Zs 0 [iI 0, pT g3 0] sz_217 F H fun A w F H => ?_
 refine Nl kk (Sx.plain ?_)
 iterate 3 (refine Av F ?_; intro A F)
 refine Zg (mk := fun g => sL g 0 1 1) F (d_lit (qs := #[(0, iI 0)]) (cs := #[iI 0]) (E := 3) F H rfl rfl (fun _ => by kernel_rfl)) fun g5 A w F H => ?_
 have H := Sx.Own.nilR H 3 1
 refine Zr (mk := fun v => v) F (d_append (i := 0) (j := 0) el_54 F H rfl rfl rfl rfl rfl rfl rfl rfl (by decide) (by decide)) fun v1 A w F H => ?_
 obtain ⟨g6, c2, rfl, hbc2, hdc2⟩ := H.open (i := 0) rfl (by decide)
 refine Av F fun A F => ?_
 refine Sx.nil (hK7 _ _ (Sx.plain ?_))
 refine Zn (iI 1) F fun A F => ?_
 refine Av F fun A F => ?_
 refine Sx.nil (Rs ?_)
 refine Sp fun _ kk => Av F fun A F => ?_
 refine Nl kk (Sx.seq fun K10 hK10 => condF F rfl (wp_exit ?_))
 try dsimp only [Exit.then, Exit.jump, Exit.noGoto]
 refine exit_here (hK3 _ _ (Sp fun _ kk => ?_))
 iterate 2 (refine Av F ?_; intro A F)
 refine Nl kk (Wr (ret1 F Tryz.results82 (res_tmp F rfl) ?_))
 exact ⟨_, rfl, g6, c2, (by omega), rfl, H.pickN 3 2 [2] [1, 0]⟩
theorem cx5039 {o1 : BitVec 128} {y1 : Nat → BitVec 64} {z1 : Gs} (H : Sx.Own w0 w (Bt g1 (L96 G n o1 y1 v1 z1) :: bs) rs K) : Cr 124 #[pT g1 0] w0 w (.agg #[uH o1, uL o1]) (Bt g1 (L96 G n o1 y1 v1 z1) :: bs) rs K := by
 refine En Tryz.func124 Tryz.ntmps124 fun A F => ?_
 refine Sp fun _ kk => Zb F (d_alloc H rfl [iU 0, iU 0] zero_26) fun g2 A w F H => ?_
 refine Nl kk (Sp fun _ kk => ?_)
 iterate 4 (refine Av F ?_; intro A F)
 refine Zs 0 [uH o1, uL o1] sz_26 F H fun A w F H => ?_
 refine Nl kk (Wr (ret1 F Tryz.results124 (res_row (i := 0) (xs := [uH o1, uL o1]) rw_26 F H rfl rfl rfl rfl) ?_))
 exact ⟨_, rfl, rfl, H.pickN 2 0 [1] []⟩
theorem cx5040 {o1 : BitVec 128} {y1 : Nat → BitVec 64} {z1 : Gs} (H : Sx.Own w0 w (Bt g1 [pT g2 0, uH G.lim, uL G.lim] :: Bt g2 (L96 G n o1 y1 v1 z1) :: bs) rs K) : Cr 84 #[pT g1 0] w0 w (L107 o1 G) (Bt g1 [pT g2 0, uH G.lim, uL G.lim] :: Bt g2 (L96 G n o1 y1 v1 z1) :: bs) rs K := by
 refine En Tryz.func84 Tryz.ntmps84 fun A F => ?_
 refine Sp fun _ kk => Zb F (d_alloc H rfl [iU 0, iU 0, iU 0, iU 0] zero_79) fun g3 A w F H => ?_
 refine Nl kk (Sx.seq fun K2 hK2 => ?_)
 have F := F.tq [(0, pT g1 0), (2, pT g3 0)] rfl
 refine Dn F [some (pT g1 0), some (pT g1 0), some (pT g1 0), some (pT g2 0), some (.agg #[uH o1, uL o1]), some (pT g1 0), some (pT g1 0), some (pT g1 1), some (.agg #[uH G.lim, uL G.lim]), some (L107 o1 G), none] (fun L A w => Sx.Own w0 w (Bt g3 (cond (L 10) (L108 o1 G) [iU 0, iU 0, iU 0, iU 0]) :: Bt g1 [pT g2 0, uH G.lim, uL G.lim] :: Bt g2 (L96 G n o1 y1 v1 z1) :: bs) rs K) (H.drew.padG [] [] rfl rfl) ?_ ?_
 ·refine ⟨?_, ?_, ?_, ?_, ?_, ?_, ?_, ?_, ?_, ?_, ?_, trivial⟩
  ·exact Sa
  ·exact Sa
  ·exact Sa
  ·exact SV (fun _ _ _ F H => Ld 1 one_220 F H)
  ·intro L A w up hun hd F H
   have f10 : L 10 = false := up 10 4 rfl hun
   rw [f10] at H
   have H : Sx.Own w0 w (Bt g3 [iU 0, iU 0, iU 0, iU 0] :: Bt g1 [pT g2 0, uH G.lim, uL G.lim] :: Bt g2 (L96 G n o1 y1 v1 z1) :: bs) rs K := H
   have H := H.pickN 3 0 [2, 0, 1] []
   refine step_on rfl (Do if_124 F (cx5039 H)) ?_
   rintro xv w' ⟨hx, H⟩
   have H := H.pickN 3 0 [1, 2, 0] []
   exact ⟨Cs hx, (by show Sx.Own _ _ _ _ _; rw [show Inv.add L 4 10 = false from f10]; exact H)⟩
  ·exact Sa
  ·exact Sa
  ·exact Sa
  ·exact SV (fun _ _ _ F H => Lr 1 [uH G.lim, uL G.lim] rw_26 F H)
  ·exact SV (fun _ _ _ F _ => d_build (qs := #[(0, .agg #[uH o1, uL o1]), (1, .agg #[uH G.lim, uL G.lim])]) (v := (L107 o1 G)) F rfl rfl (by kernel_rfl))
  ·intro L A w up hun hd F H
   have f10 : L 10 = false := hun
   rw [f10] at H
   refine step_on rfl (d_store (i := 0) (xs := (L108 o1 G)) (us := (L108 o1 G)) sz_79 F H rfl rfl rfl rfl rfl rfl rfl (Nat.le_of_ble_eq_true rfl) rfl) ?_
   intro xv w' H
   exact ⟨Cn, H⟩
 ·intro L A w hL F H
  have t10 : L 10 = true := hL 10 rfl
  rw [t10] at H
  have H := H.pickN 3 0 [0, 1, 2] []
  have F := F.tq [(2, pT g3 0)] rfl
  refine hK2 _ _ (Wr (ret1 F Tryz.results84 (res_row (i := 0) (xs := (L108 o1 G)) rw_79 F H rfl rfl rfl rfl) ?_))
  exact ⟨_, rfl, rfl, H.pickN 3 0 [1, 2] []⟩
theorem cx5041 {o1 : BitVec 128} {y1 : Nat → BitVec 64} {z1 : Gs} (hbc1 : 1 ≤ c1) (H : Sx.Own w0 w (Bt g1 [pT g2 0, iI G.k, uN n] :: Bt g2 [sL g3 0 1 c1, iI 1] :: Bt g4 [pT g5 0, uH G.lim, uL G.lim] :: Bt g5 (L96 G n o1 y1 v1 z1) :: bs) (⟨true, sL g3 0 1 c1, 217, 2, 1, [iI 0, pT g4 0]⟩ :: rs) K) : Cq 56 #[pT g1 0] w fun x w' => ∃ g8 c3 : Nat, 1 ≤ c3 ∧ x = sL g8 0 1 c3 ∧ Sx.Own w0 w' (Bt g1 [pT g2 0, iI G.k, uN n] :: Bt g2 [sL g3 0 1 c1, iI 1] :: Bt g4 [pT g5 0, uH G.lim, uL G.lim] :: Bt g5 (L96 G n o1 y1 v1 z1) :: bs) (⟨true, sL g3 0 1 c1, 217, 2, 1, [iI 0, pT g4 0]⟩ :: ⟨true, sL g8 0 1 c3, 79, 4, 1, (L108 o1 G)⟩ :: rs) K := by
 refine En Tryz.func56 Tryz.ntmps56 fun A F => ?_
 refine Sp fun _ kk => Av F fun A F => ?_
 refine Nl kk (Sp fun _ kk => Av F fun A F => ?_)
 refine Nl kk (Sx.seq fun K3 hK3 => Sp fun _ kk => ?_)
 iterate 4 (refine Av F ?_; intro A F)
 have H := H.pickN 4 1 [1, 0, 2, 3] [0]
 refine Zx F (Do if_82 F (cx5038 (by omega) H)) ?_
 rintro _ w ⟨g6, c2, hbc2, rfl, H⟩ A F
 refine Zv F (d_lenS el_54 F rfl rfl) fun A F => ?_
 refine Av F fun A F => ?_
 refine Nl kk (wp_block (wp_loop_rounds 40 ?_))
 refine Rs ?_
 refine Sp fun _ kk => Av F fun A F => ?_
 refine Nl kk (Sx.seq fun K6 hK6 => condT F rfl (wp_skip (hK6 _ _ (Sx.seq fun K7 hK7 => wp_block (Sp fun _ kk => Zv F (d_ix1 (k := 0) (g := g6) (off := 0) el_54 F rfl rfl rfl rfl rfl (by omega)) fun A F => ?_)))))
 refine Zv F (Ld 0 one_3 F (H.rowBox (i := 1) rfl)) fun A F => ?_
 refine Av F fun A F => ?_
 refine Nl kk (Sp fun _ kk => ?_)
 iterate 5 (refine Av F ?_; intro A F)
 refine Zx F (Do if_83 F (cx5022 (by omega) H)) ?_
 rintro _ w ⟨rfl, H⟩ A F
 iterate 5 (refine Av F ?_; intro A F)
 refine Nl kk (Sx.plain ?_)
 iterate 2 (refine Av F ?_; intro A F)
 have H := H.pickN 4 2 [2, 3, 0, 1] [0, 1]
 refine Zx F (Do if_84 F (cx5040 H)) ?_
 rintro _ w ⟨rfl, H⟩ A F
 refine Zg (mk := fun g => sL g 0 1 1) F (d_lit (qs := #[(0, (L107 o1 G))]) (cs := #[uH o1, uL o1, uH G.lim, uL G.lim]) (E := 79) F H rfl rfl (fun _ => by kernel_rfl)) fun g7 A w F H => ?_
 have H := Sx.Own.nilR H 79 4
 refine Zr (mk := fun v => v) F (d_append (i := 0) (j := 0) el_74 F H rfl rfl rfl rfl rfl rfl rfl rfl (by decide) (by decide)) fun v2 A w F H => ?_
 obtain ⟨g8, c3, rfl, hbc3, hdc3⟩ := H.open (i := 0) rfl (by decide)
 refine Av F fun A F => ?_
 refine Sx.nil (hK7 _ _ (Sx.plain ?_))
 refine Zn (iI 1) F fun A F => ?_
 refine Av F fun A F => ?_
 refine Sx.nil (Rs ?_)
 refine Sp fun _ kk => Av F fun A F => ?_
 refine Nl kk (Sx.seq fun K11 hK11 => condF F rfl (wp_exit ?_))
 try dsimp only [Exit.then, Exit.jump, Exit.noGoto]
 refine exit_here (hK3 _ _ (Sp fun _ kk => ?_))
 iterate 2 (refine Av F ?_; intro A F)
 refine Nl kk (Wr (ret1 F Tryz.results56 (res_tmp F rfl) ?_))
 exact ⟨_, rfl, g8, c3, (by omega), rfl, H.pickN 5 3 [4, 3, 1, 2] [1, 0]⟩
theorem cx5042 {o1 : BitVec 128} {y1 : Nat → BitVec 64} {z1 : Gs} (hbc1 : 1 ≤ c1) (H : Sx.Own w0 w (Bt g1 [pT g2 0] :: Bt g2 [pT g3 0, iI G.k, uN n] :: Bt g3 [sL g4 0 1 c1, iI 1] :: Bt g5 [pT g6 0, uH G.lim, uL G.lim] :: Bt g6 (L96 G n o1 y1 v1 z1) :: bs) (⟨true, sL g4 0 1 c1, 217, 2, 1, [iI 0, pT g5 0]⟩ :: rs) K) : Cq 21 #[pT g1 0] w fun x w' => ∃ g7 c2 : Nat, 1 ≤ c2 ∧ x = sL g7 0 1 c2 ∧ Sx.Own w0 w' (Bt g1 [pT g2 0] :: Bt g2 [pT g3 0, iI G.k, uN n] :: Bt g3 [sL g4 0 1 c1, iI 1] :: Bt g5 [pT g6 0, uH G.lim, uL G.lim] :: Bt g6 (L96 G n o1 y1 v1 z1) :: bs) (⟨true, sL g4 0 1 c1, 217, 2, 1, [iI 0, pT g5 0]⟩ :: ⟨true, sL g7 0 1 c2, 79, 4, 1, (L108 o1 G)⟩ :: rs) K := by
 refine En Tryz.func21 Tryz.ntmps21 fun A F => ?_
 refine Sp fun _ kk => Av F fun A F => ?_
 refine Nl kk (Sx.seq fun K2 hK2 => Sp fun _ kk => Av F fun A F => ?_)
 refine Zx F (Do if_53 F (cx5018 H)) ?_
 rintro _ w ⟨rfl, H⟩ A F
 refine Nl kk (condF F rfl (wp_skip (hK2 _ _ (Sp fun _ kk => ?_))))
 iterate 4 (refine Av F ?_; intro A F)
 have H := H.pickN 5 1 [1, 2, 3, 4, 0] [0]
 refine Zx F (Do if_56 F (cx5041 (by omega) H)) ?_
 rintro _ w ⟨g7, c2, hbc2, rfl, H⟩ A F
 refine Av F fun A F => ?_
 refine Nl kk (Wr (ret1 F Tryz.results21 (res_tmp F rfl) ?_))
 exact ⟨_, rfl, g7, c2, (by omega), rfl, H.pickN 5 2 [4, 0, 1, 2, 3] [0, 1]⟩
abbrev L136 (x0 : BitVec 128) (x1 : BitVec 8) : Value := .agg #[uH (x0 + (Bd.lw x1)), uL (x0 + (Bd.lw x1))]
abbrev L137 (x0 : BitVec 128) (x1 : BitVec 8) : List Value := [uH (x0 + (Bd.lw x1)), uL (x0 + (Bd.lw x1))]
abbrev L138 (x0 : BitVec 64) (x1 : BitVec 8) (x2 : BitVec 64) (x3 : Nat) (x4 : Bd.Gen) (x5 : Nat) (x6 : BitVec 128) : List (Nat × Value) := [(1, uN x0), (3, iB x1.toNat), (4, uN x2), (7, pT x3 0), (10, bF), (11, iI x4.k), (12, pT x5 0), (13, .bool (Wd.over x6 (Bd.lw x1)))]
abbrev L139 (x0 : BitVec 64) (x1 : BitVec 8) (x2 : BitVec 64) (x3 : Nat) (x4 : Bd.Gen) (x5 : Nat) : List (Nat × Value) := [(1, uN x0), (3, iB x1.toNat), (4, uN x2), (7, pT x3 0), (10, bF), (11, iI x4.k), (12, pT x5 0), (60, bT)]
abbrev L140 (x0 : BitVec 64) (x1 : BitVec 8) (x2 : BitVec 64) (x3 : Nat) (x4 : Bd.Gen) (x5 : Nat) : List (Nat × Value) := [(1, uN x0), (3, iB x1.toNat), (4, uN x2), (7, pT x3 0), (10, bF), (11, iI x4.k), (12, pT x5 0), (13, bF)]
abbrev L141 (x0 : BitVec 128) (x1 : Nat) : Value := .agg #[uH (x0 + (Wd.of ((BitVec.ofNat 64 x1) + 1#64))), uL (x0 + (Wd.of ((BitVec.ofNat 64 x1) + 1#64)))]
abbrev L142 (x0 : BitVec 128) (x1 : Nat) : Value := .tuple #[.agg #[uH (x0 + (Wd.of ((BitVec.ofNat 64 x1) + 1#64))), uL (x0 + (Wd.of ((BitVec.ofNat 64 x1) + 1#64)))], .bool (Wd.over x0 (Wd.of ((BitVec.ofNat 64 x1) + 1#64)))]
abbrev L143 (x0 : BitVec 128) (x1 : Nat) : List Value := [uH (x0 + (Wd.of ((BitVec.ofNat 64 x1) + 1#64))), uL (x0 + (Wd.of ((BitVec.ofNat 64 x1) + 1#64)))]
theorem cx5043 (hk : ((kd.toNat % 4 : Nat) : Int) + 1 = G.k) (haw : Bd.Awake) (H : Sx.Own w0 w bs rs K) : Cr 4 #[iB kd.toNat, uN n, .agg #[uH at', uL at'], iB lf.toNat, uN b] w0 w bT bs rs K := by
 refine En Tryz.func4 Tryz.ntmps4 fun A F => ?_
 refine Sp fun _ kk => Zb F (d_box F H rfl rfl [uH at', uL at'] rfl) fun g1 A w F H => ?_
 refine Av F fun A F => ?_
 refine Nl kk (Sx.seq fun K2 hK2 => Sp fun _ kk => Zw F (Dc if_5 F H ((haw _))) fun A w F H => ?_)
 refine Zv F (d_un (v := bF) F rfl rfl rfl) fun A F => ?_
 refine Nl kk (condF F rfl (wp_skip (hK2 _ _ (Sp fun _ kk => Av F fun A F => ?_))))
 refine Zv F (Bn (iB ((kd.toNat % 4 : Nat))) F rfl rfl rfl (i_rem (p := kd.toNat) (q := 4) rfl (by decide))) fun A F => ?_
 refine Zv F (d_conv (v := iI (kd.toNat % 4 : Nat)) F rfl rfl (c_u8_i64 (kd.toNat % 4 : Nat) (by have := lf.isLt; omega))) fun A F => ?_
 refine Zv F (Bn (iI G.k) F rfl rfl rfl (i_addS (by rw [← hk]; exact in64 _ (by omega)))) fun A F => ?_
 refine Av F fun A F => ?_
 refine Nl kk (Sx.seq fun K5 hK5 => ?_)
 have F := F.tq [(1, uN n), (3, iB lf.toNat), (4, uN b), (7, pT g1 0), (10, bF), (11, iI G.k)] rfl
 refine Dn F [some (.agg #[uH at', uL at']), some (iB lf.toNat), some (uN (BitVec.ofNat 64 lf.toNat)), some (.agg #[uH (Bd.lw lf), uL (Bd.lw lf)]), some (.tuple #[(L136 at' lf), .bool (Wd.over at' (Bd.lw lf))]), some (.tuple #[(L136 at' lf), .bool (Wd.over at' (Bd.lw lf))]), some (L136 at' lf), some (.bool (Wd.over at' (Bd.lw lf))), none, none, some (.bool (Wd.over at' (Bd.lw lf)))] (fun L A w => ∃ g2 : Nat, (L 8 = true → A.eval (.tmp 12) = pT g2 0) ∧ Sx.Own w0 w ((L 8, g2, (cond (L 9) (L137 at' lf) [iU 0, iU 0])) :: Bt g1 [uH at', uL at'] :: bs) rs K) ⟨0, (fun h => by cases h), H.drew.padG [(false, 0, [iU 0, iU 0])] [] rfl rfl⟩ ?_ ?_
 ·refine ⟨?_, ?_, ?_, ?_, ?_, ?_, ?_, ?_, ?_, ?_, ?_, trivial⟩
  ·exact SV (fun _ _ _ F ⟨g2, p8, H⟩ => Lr 1 [uH at', uL at'] rw_26 F H) (fun _ _ _ _ ⟨g2, p8, H⟩ => ⟨g2, Pk p8, H⟩)
  ·exact Sa (hS := (fun _ _ _ _ ⟨g2, p8, H⟩ => ⟨g2, Pk p8, H⟩))
  ·exact SV (fun _ _ _ F _ => d_conv (v := uN (BitVec.ofNat 64 lf.toNat)) F rfl rfl (c_u8_u64 lf.toNat (by have := lf.isLt; omega) .u8)) (fun _ _ _ _ ⟨g2, p8, H⟩ => ⟨g2, Pk p8, H⟩)
  ·intro L A w up hun hd F ⟨g2, p8, H⟩
   have f9 : L 9 = false := up 9 3 rfl hun
   rw [f9] at H
   refine step_on rfl (Dc if_15 F H (wofV_c (BitVec.ofNat 64 lf.toNat) _)) ?_
   rintro xv w' ⟨hx, H⟩
   exact ⟨Cs hx, ⟨g2, Pk p8, (by show Sx.Own _ _ _ _ _; rw [show Inv.add L 3 9 = false from f9]; exact H)⟩⟩
  ·intro L A w up hun hd F ⟨g2, p8, H⟩
   have f9 : L 9 = false := up 9 4 rfl hun
   rw [f9] at H
   refine step_on rfl (Dc if_14 F H (wadd_c at' (Bd.lw lf) _)) ?_
   rintro xv w' ⟨hx, H⟩
   exact ⟨Cs hx, ⟨g2, Pk p8, (by show Sx.Own _ _ _ _ _; rw [show Inv.add L 4 9 = false from f9]; exact H)⟩⟩
  ·exact Sa (hS := (fun _ _ _ _ ⟨g2, p8, H⟩ => ⟨g2, Pk p8, H⟩))
  ·exact Sa (hS := (fun _ _ _ _ ⟨g2, p8, H⟩ => ⟨g2, Pk p8, H⟩))
  ·exact Sa (hS := (fun _ _ _ _ ⟨g2, p8, H⟩ => ⟨g2, Pk p8, H⟩))
  ·intro L A w up hun hd F ⟨g2, p8, H⟩
   have f8 : L 8 = false := hun
   have f9 : L 9 = false := up 9 8 rfl hun
   rw [f8, f9] at H
   refine step_on rfl (d_alloc H rfl [iU 0, iU 0] zero_26) ?_
   rintro xv w' ⟨g3, hx, H⟩
   have H := H.pickN 3 0 [0, 2] []
   exact ⟨Cn, ⟨g3, (fun _ => (Sx.put_same F (by decide) _).trans hx), (by show Sx.Own _ _ _ _ _; rw [show Inv.add L 8 9 = false from f9]; exact H)⟩⟩
  ·intro L A w up hun hd F ⟨g2, p8, H⟩
   have t8 : L 8 = true := hd 8 rfl
   have f9 : L 9 = false := hun
   rw [t8, f9] at H
   have F := Fr.add F (p8 t8)
   refine step_on rfl (d_store (i := 0) (xs := (L137 at' lf)) (us := (L137 at' lf)) sz_26 F H rfl rfl rfl rfl rfl rfl rfl (Nat.le_of_ble_eq_true rfl) rfl) ?_
   intro xv w' H
   exact ⟨Cn, ⟨g2, p8, (by show Sx.Own _ _ _ _ _; rw [show Inv.add L 9 8 = true from t8]; exact H)⟩⟩
  ·intro L A w up hun hd F ⟨g2, p8, H⟩
   have t8 : L 8 = true := hd 8 rfl
   have t9 : L 9 = true := hd 9 rfl
   have Hj := H; rw [t8, t9] at Hj
   have F := Fr.add F (p8 t8)
   refine step_on rfl (d_move F (Or.inr rfl) rfl) ?_
   rintro xv w' ⟨hx, rfl⟩
   exact ⟨Cs hx, ⟨g2, Pk p8, H⟩⟩
 ·intro L A w hL F ⟨g2, p8, H⟩
  have t8 : L 8 = true := hL 8 rfl
  have t9 : L 9 = true := hL 9 rfl
  rw [t8, t9] at H
  have F := Fr.add F (p8 t8)
  have H := H.pickN 2 0 [0, 1] []
  have F := F.tq (L138 n lf b g1 G g2 at') rfl
  refine hK5 _ _ ?_
  rcases Bd.early G at' lf b with ea | ⟨na, eb⟩ | ⟨na, nb, nc⟩ | ⟨na, nb, nc, ed⟩ | ⟨na, nb, nc, nd, ee⟩ | ⟨na, nb, nc, nd, hb⟩
  ·skip
   refine Sx.seq fun K6 hK6 => Sx.seq fun K7 hK7 => ?_
   have F := F.tq (L138 n lf b g1 G g2 at') rfl
   refine Dn F [some (iB lf.toNat), some (bT), some (bT), some (undef), some (undef), some (bT), some (bT), some (undef), some (bT), some (bT), some (undef), some (undef), some (undef), some (undef), some (undef), some (bT), some (bT), some (undef), some (undef), some (bT)] (fun L A w => Sx.Own w0 w (Bt g2 (L137 at' lf) :: Bt g1 [uH at', uL at'] :: bs) rs K) (H.drew.padG [] [] rfl rfl) ?_ ?_
   ·refine ⟨?_, ?_, ?_, ?_, ?_, ?_, ?_, ?_, ?_, ?_, ?_, ?_, ?_, ?_, ?_, ?_, ?_, ?_, ?_, ?_, trivial⟩
    ·exact Sa
    ·exact SV (fun _ _ _ F _ => Bn bT F rfl rfl rfl (i_gt (decide_eq_true (by have := ea; omega))))
    ·exact Sa
    ·exact SO
    ·exact SO
    ·exact Sa
    ·exact Sa
    ·exact SO
    ·exact Sa
    ·exact Sa
    ·exact SO
    ·exact SO
    ·exact SO
    ·exact SO
    ·exact SO
    ·exact Sa
    ·exact Sa
    ·exact SO
    ·exact SO
    ·exact Sa
   ·intro L A w hL F H
    have H := H.pickN 2 0 [0, 1] []
    have F := F.tq (L139 n lf b g1 G g2) rfl
    refine hK7 _ _ (condT F rfl (Sp fun _ kk => Av F fun A F => ?_))
    refine Nl kk (Wr (ret1 F Tryz.results4 (res_tmp F rfl) ?_))
    exact ⟨_, rfl, rfl, H.pickN 2 0 [] []⟩
  ·skip
   refine Sx.seq fun K9 hK9 => Sx.seq fun K10 hK10 => ?_
   have F := F.tq (L138 n lf b g1 G g2 at') rfl
   refine Dn F [some (iB lf.toNat), some (bF), some (bF), some (iB lf.toNat), some (bT), some (bT), some (bT), some (undef), some (bT), some (bT), some (undef), some (undef), some (undef), some (undef), some (undef), some (bT), some (bT), some (undef), some (undef), some (bT)] (fun L A w => Sx.Own w0 w (Bt g2 (L137 at' lf) :: Bt g1 [uH at', uL at'] :: bs) rs K) (H.drew.padG [] [] rfl rfl) ?_ ?_
   ·refine ⟨?_, ?_, ?_, ?_, ?_, ?_, ?_, ?_, ?_, ?_, ?_, ?_, ?_, ?_, ?_, ?_, ?_, ?_, ?_, ?_, trivial⟩
    ·exact Sa
    ·exact SV (fun _ _ _ F _ => Bn bF F rfl rfl rfl (i_gt (decide_eq_false (by have := na; omega))))
    ·exact Sa
    ·exact SVg (fun _ _ _ F _ => d_move F (Or.inl rfl) rfl)
    ·exact SVg (fun _ _ _ F _ => Bn bT F rfl rfl rfl (i_lt (decide_eq_true (by have := eb; omega))))
    ·exact Sa
    ·exact Sa
    ·exact SO
    ·exact Sa
    ·exact Sa
    ·exact SO
    ·exact SO
    ·exact SO
    ·exact SO
    ·exact SO
    ·exact Sa
    ·exact Sa
    ·exact SO
    ·exact SO
    ·exact Sa
   ·intro L A w hL F H
    have H := H.pickN 2 0 [0, 1] []
    have F := F.tq (L139 n lf b g1 G g2) rfl
    refine hK10 _ _ (condT F rfl (Sp fun _ kk => Av F fun A F => ?_))
    refine Nl kk (Wr (ret1 F Tryz.results4 (res_tmp F rfl) ?_))
    exact ⟨_, rfl, rfl, H.pickN 2 0 [] []⟩
  ·skip
   have F := Fr.add F ((F.get 13 (.bool (Wd.over at' (Bd.lw lf))) rfl).trans (congrArg Value.bool nc))
   refine Sx.seq fun K12 hK12 => Sx.seq fun K13 hK13 => ?_
   have F := F.tq [(1, uN n), (3, iB lf.toNat), (4, uN b), (7, pT g1 0), (10, bF), (11, iI G.k), (12, pT g2 0), (13, bT)] rfl
   refine Dn F [some (iB lf.toNat), some (bF), some (bF), some (iB lf.toNat), some (bF), some (bF), some (bF), some (bT), some (bT), some (bT), some (undef), some (undef), some (undef), some (undef), some (undef), some (bT), some (bT), some (undef), some (undef), some (bT)] (fun L A w => Sx.Own w0 w (Bt g2 (L137 at' lf) :: Bt g1 [uH at', uL at'] :: bs) rs K) (H.drew.padG [] [] rfl rfl) ?_ ?_
   ·refine ⟨?_, ?_, ?_, ?_, ?_, ?_, ?_, ?_, ?_, ?_, ?_, ?_, ?_, ?_, ?_, ?_, ?_, ?_, ?_, ?_, trivial⟩
    ·exact Sa
    ·exact SV (fun _ _ _ F _ => Bn bF F rfl rfl rfl (i_gt (decide_eq_false (by have := na; omega))))
    ·exact Sa
    ·exact SVg (fun _ _ _ F _ => d_move F (Or.inl rfl) rfl)
    ·exact SVg (fun _ _ _ F _ => Bn bF F rfl rfl rfl (i_lt (decide_eq_false (by have := nb; omega))))
    ·exact Sa
    ·exact Sa
    ·exact SVg (fun _ _ _ F _ => d_move F (Or.inl rfl) rfl)
    ·exact Sa
    ·exact Sa
    ·exact SO
    ·exact SO
    ·exact SO
    ·exact SO
    ·exact SO
    ·exact Sa
    ·exact Sa
    ·exact SO
    ·exact SO
    ·exact Sa
   ·intro L A w hL F H
    have H := H.pickN 2 0 [0, 1] []
    have F := F.tq (L139 n lf b g1 G g2) rfl
    refine hK13 _ _ (condT F rfl (Sp fun _ kk => Av F fun A F => ?_))
    refine Nl kk (Wr (ret1 F Tryz.results4 (res_tmp F rfl) ?_))
    exact ⟨_, rfl, rfl, H.pickN 2 0 [] []⟩
  ·skip
   have F := Fr.add F ((F.get 13 (.bool (Wd.over at' (Bd.lw lf))) rfl).trans (congrArg Value.bool nc))
   refine Sx.seq fun K15 hK15 => Sx.seq fun K16 hK16 => ?_
   have F := F.tq (L140 n lf b g1 G g2) rfl
   refine Dn F [some (iB lf.toNat), some (bF), some (bF), some (iB lf.toNat), some (bF), some (bF), some (bF), some (bF), some (bF), some (bF), some (L136 at' lf), some (iI G.k), some (.agg #[uH G.lim, uL G.lim]), some (iI (Wd.cmp (at' + (Bd.lw lf)) G.lim)), some (bT), some (bT), some (bT), some (undef), some (undef), some (bT)] (fun L A w => Sx.Own w0 w (Bt g2 (L137 at' lf) :: Bt g1 [uH at', uL at'] :: bs) rs K) (H.drew.padG [] [] rfl rfl) ?_ ?_
   ·refine ⟨?_, ?_, ?_, ?_, ?_, ?_, ?_, ?_, ?_, ?_, ?_, ?_, ?_, ?_, ?_, ?_, ?_, ?_, ?_, ?_, trivial⟩
    ·exact Sa
    ·exact SV (fun _ _ _ F _ => Bn bF F rfl rfl rfl (i_gt (decide_eq_false (by have := na; omega))))
    ·exact Sa
    ·exact SVg (fun _ _ _ F _ => d_move F (Or.inl rfl) rfl)
    ·exact SVg (fun _ _ _ F _ => Bn bF F rfl rfl rfl (i_lt (decide_eq_false (by have := nb; omega))))
    ·exact Sa
    ·exact Sa
    ·exact SVg (fun _ _ _ F _ => d_move F (Or.inl rfl) rfl)
    ·exact Sa
    ·exact Sa
    ·exact SVg (fun _ _ _ F H => Lr 0 (L137 at' lf) rw_26 F H)
    ·exact SVg (fun _ _ _ F _ => d_move F (Or.inl rfl) rfl)
    ·intro L A w up hun hd F H
     refine step_ong rfl (guard_known (d := 50) (b := false) F rfl rfl) rfl (Dc if_17 F H (G.limit_c _)) ?_
     rintro xv w' ⟨hx, H⟩
     exact ⟨Cs hx, H⟩
    ·intro L A w up hun hd F H
     refine step_ong rfl (guard_known (d := 50) (b := false) F rfl rfl) rfl (Dc if_16 F H (wcmp_c (at' + (Bd.lw lf)) G.lim _)) ?_
     rintro xv w' ⟨hx, H⟩
     exact ⟨Cs hx, H⟩
    ·exact SVg (fun _ _ _ F _ => Bn bT F rfl rfl rfl (i_gt ed))
    ·exact Sa
    ·exact Sa
    ·exact SO
    ·exact SO
    ·exact Sa
   ·intro L A w hL F H
    have H := H.pickN 2 0 [0, 1] []
    have F := F.tq (L139 n lf b g1 G g2) rfl
    refine hK16 _ _ (condT F rfl (Sp fun _ kk => Av F fun A F => ?_))
    refine Nl kk (Wr (ret1 F Tryz.results4 (res_tmp F rfl) ?_))
    exact ⟨_, rfl, rfl, H.pickN 2 0 [] []⟩
  ·skip
   have F := Fr.add F ((F.get 13 (.bool (Wd.over at' (Bd.lw lf))) rfl).trans (congrArg Value.bool nc))
   refine Sx.seq fun K18 hK18 => Sx.seq fun K19 hK19 => ?_
   have F := F.tq (L140 n lf b g1 G g2) rfl
   refine Dn F [some (iB lf.toNat), some (bF), some (bF), some (iB lf.toNat), some (bF), some (bF), some (bF), some (bF), some (bF), some (bF), some (L136 at' lf), some (iI G.k), some (.agg #[uH G.lim, uL G.lim]), some (iI (Wd.cmp (at' + (Bd.lw lf)) G.lim)), some (bF), some (bF), some (bF), some (uN b), some (bT), some (bT)] (fun L A w => Sx.Own w0 w (Bt g2 (L137 at' lf) :: Bt g1 [uH at', uL at'] :: bs) rs K) (H.drew.padG [] [] rfl rfl) ?_ ?_
   ·refine ⟨?_, ?_, ?_, ?_, ?_, ?_, ?_, ?_, ?_, ?_, ?_, ?_, ?_, ?_, ?_, ?_, ?_, ?_, ?_, ?_, trivial⟩
    ·exact Sa
    ·exact SV (fun _ _ _ F _ => Bn bF F rfl rfl rfl (i_gt (decide_eq_false (by have := na; omega))))
    ·exact Sa
    ·exact SVg (fun _ _ _ F _ => d_move F (Or.inl rfl) rfl)
    ·exact SVg (fun _ _ _ F _ => Bn bF F rfl rfl rfl (i_lt (decide_eq_false (by have := nb; omega))))
    ·exact Sa
    ·exact Sa
    ·exact SVg (fun _ _ _ F _ => d_move F (Or.inl rfl) rfl)
    ·exact Sa
    ·exact Sa
    ·exact SVg (fun _ _ _ F H => Lr 0 (L137 at' lf) rw_26 F H)
    ·exact SVg (fun _ _ _ F _ => d_move F (Or.inl rfl) rfl)
    ·intro L A w up hun hd F H
     refine step_ong rfl (guard_known (d := 50) (b := false) F rfl rfl) rfl (Dc if_17 F H (G.limit_c _)) ?_
     rintro xv w' ⟨hx, H⟩
     exact ⟨Cs hx, H⟩
    ·intro L A w up hun hd F H
     refine step_ong rfl (guard_known (d := 50) (b := false) F rfl rfl) rfl (Dc if_16 F H (wcmp_c (at' + (Bd.lw lf)) G.lim _)) ?_
     rintro xv w' ⟨hx, H⟩
     exact ⟨Cs hx, H⟩
    ·exact SVg (fun _ _ _ F _ => Bn bF F rfl rfl rfl (i_gt nd))
    ·exact Sa
    ·exact Sa
    ·exact SVg (fun _ _ _ F _ => d_move F (Or.inl rfl) rfl)
    ·exact SVg (fun _ _ _ F _ => Bn bT F rfl rfl rfl (i_eq (beq_iff_eq.2 (by have := ee; omega))))
    ·exact Sa
   ·intro L A w hL F H
    have H := H.pickN 2 0 [0, 1] []
    have F := F.tq (L139 n lf b g1 G g2) rfl
    refine hK19 _ _ (condT F rfl (Sp fun _ kk => Av F fun A F => ?_))
    refine Nl kk (Wr (ret1 F Tryz.results4 (res_tmp F rfl) ?_))
    exact ⟨_, rfl, rfl, H.pickN 2 0 [] []⟩
  ·skip
   have F := Fr.add F ((F.get 13 (.bool (Wd.over at' (Bd.lw lf))) rfl).trans (congrArg Value.bool nc))
   obtain ⟨hto, hlt, hl1, hl40⟩ := Bd.main_of G na nb nc nd
   have hat := Nat.le_of_lt hlt
   refine Sx.seq fun K21 hK21 => Sx.seq fun K22 hK22 => ?_
   have F := F.tq (L140 n lf b g1 G g2) rfl
   refine Dn F [some (iB lf.toNat), some (bF), some (bF), some (iB lf.toNat), some (bF), some (bF), some (bF), some (bF), some (bF), some (bF), some (L136 at' lf), some (iI G.k), some (.agg #[uH G.lim, uL G.lim]), some (iI (Wd.cmp (at' + (Bd.lw lf)) G.lim)), some (bF), some (bF), some (bF), some (uN b), some (bF), some (bF)] (fun L A w => Sx.Own w0 w (Bt g2 (L137 at' lf) :: Bt g1 [uH at', uL at'] :: bs) rs K) (H.drew.padG [] [] rfl rfl) ?_ ?_
   ·refine ⟨?_, ?_, ?_, ?_, ?_, ?_, ?_, ?_, ?_, ?_, ?_, ?_, ?_, ?_, ?_, ?_, ?_, ?_, ?_, ?_, trivial⟩
    ·exact Sa
    ·exact SV (fun _ _ _ F _ => Bn bF F rfl rfl rfl (i_gt (decide_eq_false (by omega))))
    ·exact Sa
    ·exact SVg (fun _ _ _ F _ => d_move F (Or.inl rfl) rfl)
    ·exact SVg (fun _ _ _ F _ => Bn bF F rfl rfl rfl (i_lt (decide_eq_false (by omega))))
    ·exact Sa
    ·exact Sa
    ·exact SVg (fun _ _ _ F _ => d_move F (Or.inl rfl) rfl)
    ·exact Sa
    ·exact Sa
    ·exact SVg (fun _ _ _ F H => Lr 0 (L137 at' lf) rw_26 F H)
    ·exact SVg (fun _ _ _ F _ => d_move F (Or.inl rfl) rfl)
    ·intro L A w up hun hd F H
     refine step_ong rfl (guard_known (d := 50) (b := false) F rfl rfl) rfl (Dc if_17 F H (G.limit_c _)) ?_
     rintro xv w' ⟨hx, H⟩
     exact ⟨Cs hx, H⟩
    ·intro L A w up hun hd F H
     refine step_ong rfl (guard_known (d := 50) (b := false) F rfl rfl) rfl (Dc if_16 F H (wcmp_c (at' + (Bd.lw lf)) G.lim _)) ?_
     rintro xv w' ⟨hx, H⟩
     exact ⟨Cs hx, H⟩
    ·exact SVg (fun _ _ _ F _ => Bn bF F rfl rfl rfl (i_gt (decide_eq_false fun h => absurd ((Bd.cmp_gt0 _ _).1 h) (Nat.not_lt.2 (Bd.to_le G hto)))))
    ·exact Sa
    ·exact Sa
    ·exact SVg (fun _ _ _ F _ => d_move F (Or.inl rfl) rfl)
    ·exact SVg (fun _ _ _ F _ => Bn bF F rfl rfl rfl (i_eq (beq_false_of_ne (by omega))))
    ·exact Sa
   ·intro L A w hL F H
    have H := H.pickN 2 0 [0, 1] []
    have F := F.tq [(1, uN n), (3, iB lf.toNat), (4, uN b), (7, pT g1 0), (10, bF), (11, iI G.k), (12, pT g2 0), (60, bF)] rfl
    refine hK22 _ _ (condF F rfl (wp_skip (hK21 _ _ (Sp fun _ kk => Zx F (Do if_18 F (cx5001 H)) ?_))))
    rintro _ w ⟨g4, rfl, H⟩ A F
    refine Av F fun A F => ?_
    refine Nl kk (Sx.seq fun K24 hK24 => Sp fun _ kk => Av F fun A F => ?_)
    refine Zn bF F fun A F => ?_
    refine Nl kk (condF F rfl (wp_skip (hK24 _ _ (Sp fun _ kk => ?_))))
    iterate 3 (refine Av F ?_; intro A F)
    refine Zv F (d_build (qs := #[(0, iI 0), (3, iI G.k), (4, uN n)]) (v := (L130 G n)) F rfl rfl (by kernel_rfl)) fun A F => ?_
    refine Zx F (Do if_19 F (cx5017 hb H)) ?_
    rintro _ w ⟨g5, g6, g7, c1, g8, g9, hbc1, rfl, H⟩ A F
    refine Zb F (d_alloc H rfl [iI 0, iU 0, nS, nS, iI 0] zero_68) fun g10 A w F H => ?_
    refine Zs 0 [iI 0, iU 0, nS, nS, iI 0] sz_68 F H fun A w F H => ?_
    refine Nl kk (Sp fun _ kk => Av F fun A F => ?_)
    refine Zv F (Lr 7 [uH at', uL at'] rw_26 F H) fun A F => ?_
    refine Zv F (d_build (qs := #[(0, iI 6), (6, .agg #[uH at', uL at'])]) (v := (L131 at')) F rfl rfl (by kernel_rfl)) fun A F => ?_
    have H := H.pickN 8 1 [1, 2, 3, 4, 5, 0, 6, 7] [0]
    refine Zx F (Do if_19 F (cx5032 (by omega) hlt H)) ?_
    rintro _ w ⟨rfl, H⟩ A F
    refine Zb F (d_alloc H rfl [iI 0, iU 0, nS, nS, iI 0] zero_68) fun g11 A w F H => ?_
    refine Zs 0 [iI 0, iU 0, nS, nS, iI 0] sz_68 F H fun A w F H => ?_
    refine Nl kk (Sp fun _ kk => ?_)
    iterate 2 (refine Av F ?_; intro A F)
    refine Zv F (Lr 8 [uH at', uL at'] rw_26 F H) fun A F => ?_
    refine Av F fun A F => ?_
    refine Zv F (d_conv (v := iI lf.toNat) F rfl rfl (c_u8_i64 lf.toNat (by have := lf.isLt; omega))) fun A F => ?_
    refine Zx F (Do if_20 F (cx5034 hl40 hlt H)) ?_
    rintro _ w ⟨v1, rfl, H⟩ A F
    iterate 5 (refine Av F ?_; intro A F)
    refine Nl kk (Sx.seq fun K29 hK29 => Sp fun _ kk => ?_)
    iterate 14 (refine Av F ?_; intro A F)
    refine Zv F (d_len (i := 0) el_65 F H rfl rfl rfl) fun A F => ?_
    refine Av F fun A F => ?_
    refine Zv F (d_conv (v := iI lf.toNat) F rfl rfl (c_u8_i64 lf.toNat (by have := lf.isLt; omega))) fun A F => ?_
    refine Zv F (Bn bF F rfl rfl rfl (i_ne (by simp))) fun A F => ?_
    refine Av F fun A F => ?_
    refine Sx.nil ?_
    have hl0 : 0 < lf.toNat := hl1
    obtain ⟨g90, c90, rfl, hc1, hc2⟩ := H.open (i := 0) rfl (by omega)
    refine kk _ _ ?_
    refine condF F rfl (wp_skip (hK29 _ _ (Sp fun _ kk => ?_)))
    iterate 2 (refine Av F ?_; intro A F)
    refine Zv F (d_build (qs := #[(0, iI 7), (5, uN b)]) (v := (L134 b)) F rfl rfl (by kernel_rfl)) fun A F => ?_
    have H := H.pickN 9 2 [1, 2, 3, 4, 5, 0, 6, 7, 8] [1, 0]
    refine Zx F (Do if_19 F (cx5037 (by omega) hb hat H)) ?_
    rintro _ w ⟨a1, j1, o1, y1, v2, z1, pp1, rfl, H⟩ A F
    refine Zb F (d_alloc H rfl [iI 0, iU 0, nS, nS, iI 0] zero_68) fun g12 A w F H => ?_
    refine Zs 0 [iI 0, uN a1, nS, nS, iI j1] sz_68 F H fun A w F H => ?_
    refine Nl kk (Sp fun _ kk => Av F fun A F => ?_)
    have H := H.pickN 10 2 [1, 2, 3, 4, 5, 0, 6, 7, 8, 9] [0, 1]
    refine Zx F (Do if_21 F (cx5042 (by omega) H)) ?_
    rintro _ w ⟨g13, c2, hbc2, rfl, H⟩ A F
    refine Av F fun A F => ?_
    refine Nl kk (Sx.seq fun K33 hK33 => Sp fun _ kk => Av F fun A F => ?_)
    refine Zv F (d_lenS el_74 F rfl rfl) fun A F => ?_
    refine Av F fun A F => ?_
    refine Nl kk (condF F rfl (wp_skip (hK33 _ _ (Sx.seq fun K35 hK35 => Sp fun _ kk => Av F fun A F => ?_))))
    refine Zv F (d_len (i := 2) el_65 F H rfl rfl rfl) fun A F => ?_
    refine Av F fun A F => ?_
    refine Nl kk (wp_block ?_)
    have H := H.pickN 10 3 [5, 8, 9] [1, 2]
    refine loop (fun q A w => ∃ j : Nat, q = lf.toNat - j ∧ j ≤ lf.toNat ∧ (∀ i, i < j → Bd.taken (G.word (G.it i (Bd.org G n at'))) b = false) ∧ Fr 183 A [(4, uN b), (7, pT g1 0), (11, iI G.k), (12, pT g2 0), (19, pT g12 0), (20, sL g13 0 1 c2), (110, sL g90 0 lf.toNat c90), (111, iI lf.toNat), (112, iI j)] ∧ Sx.Own w0 w (Bt g12 [iI 0, uN a1, nS, nS, iI j1] :: Bt g2 (L137 at' lf) :: Bt g1 [uH at', uL at'] :: bs) (⟨true, sL g13 0 1 c2, 79, 4, 1, (L108 o1 G)⟩ :: ⟨true, sL g90 0 lf.toNat c90, 22, 1, lf.toNat, (u64s (G.ws lf.toNat (Bd.org G n at')))⟩ :: rs) K) lf.toNat ⟨0, rfl, Nat.zero_le _, fun i h => absurd h (Nat.not_lt_zero _), F.to ⟨rfl, rfl, rfl, rfl, rfl, rfl, rfl, rfl, rfl, trivial⟩, H⟩ ?_
    rintro q A w ⟨j, rfl, hj, hJ, F, H⟩
    by_cases hlt2 : j < lf.toNat
    ·skip
     refine Sp fun _ kk => Zv F (Bn bT F rfl rfl rfl (i_lt (decide_eq_true (by omega)))) fun A F => ?_
     refine Nl kk (Sx.seq fun K38 hK38 => condT F rfl (wp_skip (hK38 _ _ (Sx.seq fun K39 hK39 => wp_block (Sp fun _ kk => Av F fun A F => ?_)))))
     refine Zv F (d_ixR (k := j) el_65 F rfl rfl rfl (rfl) (by omega)) fun A F => ?_
     refine Zv F (d_loadR (i := 1) (v := uN (G.word (G.it j (Bd.org G n at')))) one_22 F H rfl rfl rfl (Bd.at_ws G hlt2)) fun A F => ?_
     iterate 2 (refine Av F ?_; intro A F)
     refine Nl kk ?_
     cases ht : Bd.taken (G.word (G.it j (Bd.org G n at'))) b with
     | true =>
      obtain ⟨hj0, ha0, hv0, ho0⟩ := Bd.told_at hto hlt2 hl40 hb hJ ht pp1
      refine Sp fun _ kk => ?_
      iterate 2 (refine Av F ?_; intro A F)
      refine Zw F (Dc if_22 F H (baccept_y (G.word (G.it j (Bd.org G n at'))) b hb (ht) _)) fun A w F H => ?_
      iterate 5 (refine Av F ?_; intro A F)
      refine Nl kk (Sp fun _ kk => Av F fun A F => ?_)
      refine Nl kk (condT F rfl (Sx.seq fun K43 hK43 => ?_))
      have F := F.tq [(4, uN b), (7, pT g1 0), (11, iI G.k), (12, pT g2 0), (19, pT g12 0), (20, sL g13 0 1 c2), (110, sL g90 0 lf.toNat c90), (111, iI lf.toNat), (112, iI j), (113, bT), (21, iI j), (22, uN (G.word (G.it j (Bd.org G n at')))), (23, uN (Bd.val (G.word (G.it j (Bd.org G n at'))) b)), (24, bT), (123, bT)] rfl
      refine Dn F [some (.agg #[uH at', uL at']), some (iI j), some (uN (BitVec.ofNat 64 j)), some (uN ((BitVec.ofNat 64 j) + 1#64)), some (.agg #[uH (Wd.of ((BitVec.ofNat 64 j) + 1#64)), uL (Wd.of ((BitVec.ofNat 64 j) + 1#64))]), some (L142 at' j), some (L142 at' j), some (L141 at' j), some (.bool (Wd.over at' (Wd.of ((BitVec.ofNat 64 j) + 1#64)))), none, none, some (.bool (Wd.over at' (Wd.of ((BitVec.ofNat 64 j) + 1#64))))] (fun L A w => ∃ g14 : Nat, (L 9 = true → A.eval (.tmp 25) = pT g14 0) ∧ Sx.Own w0 w ((L 9, g14, (cond (L 10) (L143 at' j) [iU 0, iU 0])) :: Bt g12 [iI 0, uN a1, nS, nS, iI j1] :: Bt g2 (L137 at' lf) :: Bt g1 [uH at', uL at'] :: bs) (⟨true, sL g13 0 1 c2, 79, 4, 1, (L108 o1 G)⟩ :: ⟨true, sL g90 0 lf.toNat c90, 22, 1, lf.toNat, (u64s (G.ws lf.toNat (Bd.org G n at')))⟩ :: rs) K) ⟨0, (fun h => by cases h), H.drew.padG [(false, 0, [iU 0, iU 0])] [] rfl rfl⟩ ?_ ?_
      ·refine ⟨?_, ?_, ?_, ?_, ?_, ?_, ?_, ?_, ?_, ?_, ?_, ?_, trivial⟩
       ·exact SV (fun _ _ _ F ⟨g14, p9, H⟩ => Lr 3 [uH at', uL at'] rw_26 F H) (fun _ _ _ _ ⟨g14, p9, H⟩ => ⟨g14, Pk p9, H⟩)
       ·exact Sa (hS := (fun _ _ _ _ ⟨g14, p9, H⟩ => ⟨g14, Pk p9, H⟩))
       ·exact SV (fun _ _ _ F _ => d_conv (v := uN (BitVec.ofNat 64 j)) F rfl rfl (c_i64_u64 j (by have := lf.isLt; omega))) (fun _ _ _ _ ⟨g14, p9, H⟩ => ⟨g14, Pk p9, H⟩)
       ·exact SV (fun _ _ _ F _ => Bn (uN ((BitVec.ofNat 64 j) + 1#64)) F rfl rfl rfl (i_add64 (BitVec.ofNat 64 j) 1#64)) (fun _ _ _ _ ⟨g14, p9, H⟩ => ⟨g14, Pk p9, H⟩)
       ·intro L A w up hun hd F ⟨g14, p9, H⟩
        have f10 : L 10 = false := up 10 4 rfl hun
        rw [f10] at H
        refine step_on rfl (Dc if_15 F H (wofV_c ((BitVec.ofNat 64 j) + 1#64) _)) ?_
        rintro xv w' ⟨hx, H⟩
        exact ⟨Cs hx, ⟨g14, Pk p9, (by show Sx.Own _ _ _ _ _; rw [show Inv.add L 4 10 = false from f10]; exact H)⟩⟩
       ·intro L A w up hun hd F ⟨g14, p9, H⟩
        have f10 : L 10 = false := up 10 5 rfl hun
        rw [f10] at H
        refine step_on rfl (Dc if_14 F H (wadd_c at' (Wd.of ((BitVec.ofNat 64 j) + 1#64)) _)) ?_
        rintro xv w' ⟨hx, H⟩
        exact ⟨Cs hx, ⟨g14, Pk p9, (by show Sx.Own _ _ _ _ _; rw [show Inv.add L 5 10 = false from f10]; exact H)⟩⟩
       ·exact Sa (hS := (fun _ _ _ _ ⟨g14, p9, H⟩ => ⟨g14, Pk p9, H⟩))
       ·exact Sa (hS := (fun _ _ _ _ ⟨g14, p9, H⟩ => ⟨g14, Pk p9, H⟩))
       ·exact Sa (hS := (fun _ _ _ _ ⟨g14, p9, H⟩ => ⟨g14, Pk p9, H⟩))
       ·intro L A w up hun hd F ⟨g14, p9, H⟩
        have f9 : L 9 = false := hun
        have f10 : L 10 = false := up 10 9 rfl hun
        rw [f9, f10] at H
        refine step_on rfl (d_alloc H rfl [iU 0, iU 0] zero_26) ?_
        rintro xv w' ⟨g15, hx, H⟩
        have H := H.pickN 5 2 [0, 2, 3, 4] [0, 1]
        exact ⟨Cn, ⟨g15, (fun _ => (Sx.put_same F (by decide) _).trans hx), (by show Sx.Own _ _ _ _ _; rw [show Inv.add L 9 10 = false from f10]; exact H)⟩⟩
       ·intro L A w up hun hd F ⟨g14, p9, H⟩
        have t9 : L 9 = true := hd 9 rfl
        have f10 : L 10 = false := hun
        rw [t9, f10] at H
        have F := Fr.add F (p9 t9)
        refine step_on rfl (d_store (i := 0) (xs := (L143 at' j)) (us := (L143 at' j)) sz_26 F H rfl rfl rfl rfl rfl rfl rfl (Nat.le_of_ble_eq_true rfl) rfl) ?_
        intro xv w' H
        exact ⟨Cn, ⟨g14, p9, (by show Sx.Own _ _ _ _ _; rw [show Inv.add L 10 9 = true from t9]; exact H)⟩⟩
       ·intro L A w up hun hd F ⟨g14, p9, H⟩
        have t9 : L 9 = true := hd 9 rfl
        have t10 : L 10 = true := hd 10 rfl
        have Hj := H; rw [t9, t10] at Hj
        have F := Fr.add F (p9 t9)
        refine step_on rfl (d_move F (Or.inr rfl) rfl) ?_
        rintro xv w' ⟨hx, rfl⟩
        exact ⟨Cs hx, ⟨g14, Pk p9, H⟩⟩
      ·intro L A w hL F ⟨g14, p9, H⟩
       have t9 : L 9 = true := hL 9 rfl
       have t10 : L 10 = true := hL 10 rfl
       rw [t9, t10] at H
       have F := Fr.add F (p9 t9)
       have H := H.pickN 4 2 [0, 1, 2, 3] [0, 1]
       have F := F.tq [(4, uN b), (7, pT g1 0), (11, iI G.k), (12, pT g2 0), (19, pT g12 0), (20, sL g13 0 1 c2), (110, sL g90 0 lf.toNat c90), (111, iI lf.toNat), (112, iI j), (113, bT), (21, iI j), (22, uN (G.word (G.it j (Bd.org G n at')))), (23, uN (Bd.val (G.word (G.it j (Bd.org G n at'))) b)), (24, bT), (123, bT), (25, pT g14 0)] rfl
       refine hK43 _ _ (Sx.seq fun K44 hK44 => ?_)
       have F := F.tq [(4, uN b), (7, pT g1 0), (11, iI G.k), (12, pT g2 0), (19, pT g12 0), (20, sL g13 0 1 c2), (110, sL g90 0 lf.toNat c90), (111, iI lf.toNat), (112, iI j), (113, bT), (21, iI j), (22, uN (G.word (G.it j (Bd.org G n at')))), (23, uN (Bd.val (G.word (G.it j (Bd.org G n at'))) b)), (24, bT), (123, bT), (25, pT g14 0)] rfl
       refine Dn F [some (pT g12 4), some (iI j1), some (bT), some (bT), some (pT g12 1), some (uN a1), some (uN (Bd.val (G.word (G.it j (Bd.org G n at'))) b)), some (bT), some (bT), some (bT), some (uN (Bd.val (G.word (G.it j (Bd.org G n at'))) b)), some (uN b), some (bT), some (bT), some (bT), some (sL g13 0 1 c2), some (pT g13 0), some (pT g13 0), some (.agg #[uH o1, uL o1]), some (L141 at' j), some (bT), some (bT), some (bT)] (fun L A w => Sx.Own w0 w (Bt g14 (L143 at' j) :: Bt g12 [iI 0, uN a1, nS, nS, iI j1] :: Bt g2 (L137 at' lf) :: Bt g1 [uH at', uL at'] :: bs) (⟨true, sL g13 0 1 c2, 79, 4, 1, (L108 o1 G)⟩ :: ⟨true, sL g90 0 lf.toNat c90, 22, 1, lf.toNat, (u64s (G.ws lf.toNat (Bd.org G n at')))⟩ :: rs) K) (H.drew.padG [] [] rfl rfl) ?_ ?_
       ·refine ⟨?_, ?_, ?_, ?_, ?_, ?_, ?_, ?_, ?_, ?_, ?_, ?_, ?_, ?_, ?_, ?_, ?_, ?_, ?_, ?_, ?_, ?_, ?_, trivial⟩
        ·exact Sa
        ·exact SV (fun _ _ _ F H => Ld 1 one_37 F H)
        ·exact SV (fun _ _ _ F _ => Bn bT F rfl rfl rfl (i_eq (beq_iff_eq.2 hj0)))
        ·exact Sa
        ·exact SVg (fun _ _ _ F _ => Fd F (fa_68_1.default.h _ _ _))
        ·exact SVg (fun _ _ _ F H => Ld 1 one_22 F H)
        ·exact SVg (fun _ _ _ F _ => d_move F (Or.inl rfl) rfl)
        ·exact SVg (fun _ _ _ F _ => Bn bT F rfl rfl rfl (i_eq (beq_iff_eq.2 ha0)))
        ·exact Sa
        ·exact Sa
        ·exact SVg (fun _ _ _ F _ => d_move F (Or.inl rfl) rfl)
        ·exact SVg (fun _ _ _ F _ => d_move F (Or.inl rfl) rfl)
        ·exact SVg (fun _ _ _ F _ => Bn bT F rfl rfl rfl (i_lt hv0))
        ·exact Sa
        ·exact Sa
        ·exact SVg (fun _ _ _ F _ => d_move F (Or.inl rfl) rfl)
        ·exact SVg (fun _ _ _ F _ => d_ixZ (k := 0) (g := g13) (off := 0) (z := 4) el_74 F rfl rfl rfl rfl rfl (by omega))
        ·exact SVg (fun _ _ _ F _ => Fd F (fa_79_0.default.h _ _ _))
        ·intro L A w up hun hd F H
         refine step_ong rfl (guard_known (d := 147) (b := true) F rfl rfl) rfl (Lr 0 [uH o1, uL o1] rw_26 F (H.rowBox (i := 0) rfl)) ?_
         rintro xv w' ⟨hx, rfl⟩
         exact ⟨Cs hx, H⟩
        ·exact SVg (fun _ _ _ F H => Lr 0 (L143 at' j) rw_26 F H)
        ·exact SVg (fun _ _ _ F _ => Bn bT F rfl rfl rfl (i_eqV ho0))
        ·exact Sa
        ·exact Sa
       ·intro L A w hL F H
        have H := H.pickN 4 2 [0, 1, 2, 3] [0, 1]
        have F := F.tq [(4, uN b), (7, pT g1 0), (11, iI G.k), (12, pT g2 0), (19, pT g12 0), (20, sL g13 0 1 c2), (110, sL g90 0 lf.toNat c90), (111, iI lf.toNat), (112, iI j), (113, bT), (21, iI j), (22, uN (G.word (G.it j (Bd.org G n at')))), (23, uN (Bd.val (G.word (G.it j (Bd.org G n at'))) b)), (24, bT), (123, bT), (25, pT g14 0), (10, bT)] rfl
        refine hK44 _ _ (Wr (ret1 F Tryz.results4 (res_tmp F rfl) ?_))
        exact ⟨_, rfl, rfl, H.pickN 4 2 [] []⟩
     | false =>
      refine Sp fun _ kk => ?_
      iterate 2 (refine Av F ?_; intro A F)
      refine Zw F (Dc if_22 F H (baccept_n (G.word (G.it j (Bd.org G n at'))) b hb (ht) _)) fun A w F H => ?_
      iterate 5 (refine Av F ?_; intro A F)
      refine Nl kk (Sp fun _ kk => Av F fun A F => ?_)
      refine Nl kk (condF F rfl (wp_skip (hK39 _ _ (Sx.plain ?_))))
      refine Zv F (Bn (iI (j + 1 : Nat)) F rfl rfl rfl (i_addN rfl (in_i64 _ (by omega)))) fun A F => ?_
      refine Av F fun A F => ?_
      refine Sx.nil ?_
      try dsimp only [Exit.then, Exit.inBlock, Exit.jump, Exit.noGoto]
      exact ⟨lf.toNat - (j + 1), by omega, j + 1, rfl, by omega, fun i hi => by by_cases h : i < j; exact hJ i h; rw [show i = j from by omega]; exact ht, F.to ⟨rfl, rfl, rfl, rfl, rfl, rfl, rfl, rfl, rfl, trivial⟩, H.pickN 3 2 [0, 1, 2] [0, 1]⟩
    ·obtain rfl : j = lf.toNat := by omega
     refine Sp fun _ kk => Zv F (Bn bF F rfl rfl rfl (i_lt (by simp))) fun A F => ?_
     refine Nl kk (Sx.seq fun K48 hK48 => condF F rfl (wp_exit ?_))
     try dsimp only [Exit.then, Exit.jump, Exit.noGoto]
     refine exit_here (hK35 _ _ ?_)
     cases he : Wd.eqb (at' + (Bd.lw lf)) G.lim with
     | true =>
      obtain ⟨hj0, ho0⟩ := Bd.told_end hto hJ he pp1
      refine Sx.seq fun K49 hK49 => Sx.seq fun K50 hK50 => ?_
      have F := F.tq [(11, iI G.k), (12, pT g2 0), (19, pT g12 0), (20, sL g13 0 1 c2)] rfl
      have H := H.pickN 3 2 [0, 1] [0]
      refine Dn F [some (L136 at' lf), some (iI G.k), some (.agg #[uH G.lim, uL G.lim]), some (bT)] (fun L A w => Sx.Own w0 w (Bt g12 [iI 0, uN a1, nS, nS, iI j1] :: Bt g2 (L137 at' lf) :: bs) (⟨true, sL g13 0 1 c2, 79, 4, 1, (L108 o1 G)⟩ :: rs) K) (H.drew.padG [] [] rfl rfl) ?_ ?_
      ·refine ⟨?_, ?_, ?_, ?_, trivial⟩
       ·exact SV (fun _ _ _ F H => Lr 1 (L137 at' lf) rw_26 F H)
       ·exact Sa
       ·intro L A w up hun hd F H
        refine step_on rfl (Dc if_17 F H (G.limit_c _)) ?_
        rintro xv w' ⟨hx, H⟩
        exact ⟨Cs hx, H⟩
       ·exact SV (fun _ _ _ F _ => Bn bT F rfl rfl rfl (i_eqV he))
      ·intro L A w hL F H
       have H := H.pickN 2 1 [0, 1] [0]
       have F := F.tq [(12, pT g2 0), (19, pT g12 0), (20, sL g13 0 1 c2), (159, bT)] rfl
       refine hK50 _ _ (condT F rfl (Sx.seq fun K51 hK51 => ?_))
       have F := F.tq [(12, pT g2 0), (19, pT g12 0), (20, sL g13 0 1 c2)] rfl
       refine Dn F [some (pT g12 4), some (iI j1), some (bT), some (bT), some (sL g13 0 1 c2), some (pT g13 0), some (pT g13 0), some (.agg #[uH o1, uL o1]), some (L136 at' lf), some (bT), some (bT), some (bT)] (fun L A w => Sx.Own w0 w (Bt g12 [iI 0, uN a1, nS, nS, iI j1] :: Bt g2 (L137 at' lf) :: bs) (⟨true, sL g13 0 1 c2, 79, 4, 1, (L108 o1 G)⟩ :: rs) K) (H.drew.padG [] [] rfl rfl) ?_ ?_
       ·refine ⟨?_, ?_, ?_, ?_, ?_, ?_, ?_, ?_, ?_, ?_, ?_, ?_, trivial⟩
        ·exact Sa
        ·exact SV (fun _ _ _ F H => Ld 0 one_37 F H)
        ·exact SV (fun _ _ _ F _ => Bn bT F rfl rfl rfl (i_eq (beq_iff_eq.2 hj0)))
        ·exact Sa
        ·exact SVg (fun _ _ _ F _ => d_move F (Or.inl rfl) rfl)
        ·exact SVg (fun _ _ _ F _ => d_ixZ (k := 0) (g := g13) (off := 0) (z := 4) el_74 F rfl rfl rfl rfl rfl (by omega))
        ·exact SVg (fun _ _ _ F _ => Fd F (fa_79_0.default.h _ _ _))
        ·intro L A w up hun hd F H
         refine step_ong rfl (guard_known (d := 163) (b := true) F rfl rfl) rfl (Lr 0 [uH o1, uL o1] rw_26 F (H.rowBox (i := 0) rfl)) ?_
         rintro xv w' ⟨hx, rfl⟩
         exact ⟨Cs hx, H⟩
        ·exact SVg (fun _ _ _ F H => Lr 1 (L137 at' lf) rw_26 F H)
        ·exact SVg (fun _ _ _ F _ => Bn bT F rfl rfl rfl (i_eqV ho0))
        ·exact Sa
        ·exact Sa
       ·intro L A w hL F H
        have H := H.pickN 2 1 [0, 1] [0]
        have F := F.tq [(12, pT g2 0), (19, pT g12 0), (20, sL g13 0 1 c2), (10, bT)] rfl
        refine hK51 _ _ (Wr (ret1 F Tryz.results4 (res_tmp F rfl) ?_))
        exact ⟨_, rfl, rfl, H.pickN 2 1 [] []⟩
     | false =>
      refine Sx.seq fun K52 hK52 => Sx.seq fun K53 hK53 => ?_
      have F := F.tq [(11, iI G.k), (12, pT g2 0), (19, pT g12 0), (20, sL g13 0 1 c2)] rfl
      have H := H.pickN 3 2 [0, 1] [0]
      refine Dn F [some (L136 at' lf), some (iI G.k), some (.agg #[uH G.lim, uL G.lim]), some (bF)] (fun L A w => Sx.Own w0 w (Bt g12 [iI 0, uN a1, nS, nS, iI j1] :: Bt g2 (L137 at' lf) :: bs) (⟨true, sL g13 0 1 c2, 79, 4, 1, (L108 o1 G)⟩ :: rs) K) (H.drew.padG [] [] rfl rfl) ?_ ?_
      ·refine ⟨?_, ?_, ?_, ?_, trivial⟩
       ·exact SV (fun _ _ _ F H => Lr 1 (L137 at' lf) rw_26 F H)
       ·exact Sa
       ·intro L A w up hun hd F H
        refine step_on rfl (Dc if_17 F H (G.limit_c _)) ?_
        rintro xv w' ⟨hx, H⟩
        exact ⟨Cs hx, H⟩
       ·exact SV (fun _ _ _ F _ => Bn bF F rfl rfl rfl (i_eqV he))
      ·intro L A w hL F H
       have H := H.pickN 2 1 [0, 1] [0]
       have F := F.tq [(12, pT g2 0), (19, pT g12 0), (20, sL g13 0 1 c2), (159, bF)] rfl
       refine hK53 _ _ (condF F rfl (wp_skip (hK52 _ _ ?_)))
       rcases Bd.told_far hto hJ pp1 with ⟨hj0, ho0⟩ | hj0
       ·skip
        refine Sx.seq fun K54 hK54 => ?_
        have F := F.tq [(12, pT g2 0), (19, pT g12 0), (20, sL g13 0 1 c2)] rfl
        refine Dn F [some (pT g12 4), some (iI j1), some (bF), some (bF), some (sL g13 0 1 c2), some (pT g13 0), some (pT g13 0), some (.agg #[uH o1, uL o1]), some (L136 at' lf), some (iI (Wd.cmp o1 (at' + (Bd.lw lf)))), some (bT), some (bT), some (bT)] (fun L A w => Sx.Own w0 w (Bt g12 [iI 0, uN a1, nS, nS, iI j1] :: Bt g2 (L137 at' lf) :: bs) (⟨true, sL g13 0 1 c2, 79, 4, 1, (L108 o1 G)⟩ :: rs) K) (H.drew.padG [] [] rfl rfl) ?_ ?_
        ·refine ⟨?_, ?_, ?_, ?_, ?_, ?_, ?_, ?_, ?_, ?_, ?_, ?_, ?_, trivial⟩
         ·exact Sa
         ·exact SV (fun _ _ _ F H => Ld 0 one_37 F H)
         ·exact SV (fun _ _ _ F _ => Bn bF F rfl rfl rfl (i_ne (by rw [hj0]; rfl)))
         ·exact Sa
         ·exact SVg (fun _ _ _ F _ => d_move F (Or.inl rfl) rfl)
         ·exact SVg (fun _ _ _ F _ => d_ixZ (k := 0) (g := g13) (off := 0) (z := 4) el_74 F rfl rfl rfl rfl rfl (by omega))
         ·exact SVg (fun _ _ _ F _ => Fd F (fa_79_0.default.h _ _ _))
         ·intro L A w up hun hd F H
          refine step_ong rfl (guard_known (d := 174) (b := false) F rfl rfl) rfl (Lr 0 [uH o1, uL o1] rw_26 F (H.rowBox (i := 0) rfl)) ?_
          rintro xv w' ⟨hx, rfl⟩
          exact ⟨Cs hx, H⟩
         ·exact SVg (fun _ _ _ F H => Lr 1 (L137 at' lf) rw_26 F H)
         ·intro L A w up hun hd F H
          refine step_ong rfl (guard_known (d := 174) (b := false) F rfl rfl) rfl (Dc if_16 F H (wcmp_c o1 (at' + (Bd.lw lf)) _)) ?_
          rintro xv w' ⟨hx, H⟩
          exact ⟨Cs hx, H⟩
         ·exact SVg (fun _ _ _ F _ => Bn bT F rfl rfl rfl (i_gt ho0))
         ·exact Sa
         ·exact Sa
        ·intro L A w hL F H
         have H := H.pickN 2 1 [0, 1] [0]
         have F := F.tq [(10, bT)] rfl
         refine hK54 _ _ (Wr (ret1 F Tryz.results4 (res_tmp F rfl) ?_))
         exact ⟨_, rfl, rfl, H.pickN 2 1 [] []⟩
       ·skip
        refine Sx.seq fun K55 hK55 => ?_
        have F := F.tq [(12, pT g2 0), (19, pT g12 0), (20, sL g13 0 1 c2)] rfl
        refine Dn F [some (pT g12 4), some (iI j1), some (bT), some (bT), some (undef), some (undef), some (undef), some (undef), some (undef), some (undef), some (undef), some (bT), some (bT)] (fun L A w => Sx.Own w0 w (Bt g12 [iI 0, uN a1, nS, nS, iI j1] :: Bt g2 (L137 at' lf) :: bs) (⟨true, sL g13 0 1 c2, 79, 4, 1, (L108 o1 G)⟩ :: rs) K) (H.drew.padG [] [] rfl rfl) ?_ ?_
        ·refine ⟨?_, ?_, ?_, ?_, ?_, ?_, ?_, ?_, ?_, ?_, ?_, ?_, ?_, trivial⟩
         ·exact Sa
         ·exact SV (fun _ _ _ F H => Ld 0 one_37 F H)
         ·exact SV (fun _ _ _ F _ => Bn bT F rfl rfl rfl (i_ne (by rw [hj0]; rfl)))
         ·exact Sa
         ·exact SO
         ·exact SO
         ·exact SO
         ·exact SO
         ·exact SO
         ·exact SO
         ·exact SO
         ·exact Sa
         ·exact Sa
        ·intro L A w hL F H
         have H := H.pickN 2 1 [0, 1] [0]
         have F := F.tq [(10, bT)] rfl
         refine hK55 _ _ (Wr (ret1 F Tryz.results4 (res_tmp F rfl) ?_))
         exact ⟨_, rfl, rfl, H.pickN 2 1 [] []⟩
end
theorem top_bounded (haw : Bd.Awake) (kd : BitVec 8) (n : BitVec 64) (at' : BitVec 128) (lf : BitVec 8) (b : BitVec 64) (w : World) : Calls Tryz.prog 4 #[.int .u8 kd.toNat, .int .u64 n.toNat, .agg #[.int .u64 ((Wd.hi at').toNat), .int .u64 ((Wd.lo at').toNat)], .int .u8 lf.toNat, .int .u64 b.toNat] w fun e w' => e = .returned (.bool true) ∧ Below w.heap.size w w' := by
  have hk : ((kd.toNat % 4 : Nat) : Int) + 1 = (Bd.gens kd.toNat).k := by rw [Bd.gens_k]; omega
  have fin : ∀ (e : Ending) (w' : World), (∃ x, e = .returned x ∧ x = .bool true ∧ Sx.Own w w' [] [] (fun _ => none)) → e = .returned (.bool true) ∧ Below w.heap.size w w' := fun e w' ⟨x, he, hx, H⟩ => ⟨by rw [he, hx], H.below⟩
  exact (cx5043 hk haw (Sx.Own.start w)).mono fin
section
open Sx
variable {w0 w : World} {bs : List Sx.Bx} {rs : List Sx.Rx} {K : Nat → Option Obj} {g1 g2 g3 g4 g5 g6 g7 g8 g9 g10 g11 g12 g13 g14 g15 g16 g17 g18 g19 g20 g21 g22 g23 g24 c1 c2 c3 c4 c5 c6 c7 c8 c9 : Nat} {v1 v2 v3 v4 v5 v6 v7 v8 v9 : Value} {n b : BitVec 64} {at' : BitVec 128} {kd lf : BitVec 8}
abbrev L144 : Value := .agg #[iI 0, iI 0, iI 0, iI 1, iU 0, iU 0, iU 0, iU 0, nS]
abbrev L145 : List Value := [iI 0, iI 0, iI 0, iI 1, iU 0, iU 0, iU 0, iU 0, nS]
abbrev L146 : List Value := [iI 0, iI 0, iI 0, iI 0, iU 0, iU 0, iU 0, iU 0, nS]
abbrev L147 : Value := .agg #[iI 0, iI 0, iI 0, iI 0, iU 0, iU 0, iU 0, iU 0, nS]
abbrev L148 (x0 x1 x2 : Nat) : List (Nat × Value) := [(1, pT x0 0), (2, pT x1 0), (3, bF), (4, pT x2 0), (9, iI 0)]
theorem cx1 (H : Sx.Own w0 w bs rs K) : Cr 86 #[L144] w0 w (.tuple #[L144, bT]) bs rs K := by
 refine En Tryz.func86 Tryz.ntmps86 fun A F => ?_
 refine Sp fun _ kk => Zb F (d_box F H rfl rfl L145 rfl) fun g1 A w F H => ?_
 refine Zb F (d_alloc H rfl L146 zero_71) fun g2 A w F H => ?_
 refine Av F fun A F => ?_
 refine Nl kk (Sp fun _ kk => ?_)
 iterate 2 (refine Av F ?_; intro A F)
 refine Zv F (d_build (qs := #[(0, iI 0)]) (v := L147) F rfl rfl (by kernel_rfl)) fun A F => ?_
 refine Zb F (d_alloc H rfl L146 zero_71) fun g3 A w F H => ?_
 refine Zs 0 L146 sz_71 F H fun A w F H => ?_
 refine Nl kk (Sx.seq fun K3 hK3 => Sp fun _ kk => ?_)
 iterate 2 (refine Av F ?_; intro A F)
 refine Nl kk (wp_block (Sp fun _ kk => ?_))
 iterate 2 (refine Av F ?_; intro A F)
 refine Nl kk (condT F rfl ?_)
 have F := F.tq (L148 g1 g2 g3) rfl
 refine Dn F [some (pT g1 3), some (iI 1), some (pT g1 4), some (iU 0), some (pT g3 3), none, some (pT g3 4), none] (fun L A w => Sx.Own w0 w (Bt g3 (cond (L 5) L145 L146) :: Bt g2 L146 :: Bt g1 L145 :: bs) rs K) (H.drew.padG [] [] rfl rfl) ?_ ?_
 ·refine ⟨?_, ?_, ?_, ?_, ?_, ?_, ?_, ?_, trivial⟩
  ·exact Sa
  ·exact SV (fun _ _ _ F H => Ld 2 one_3 F H)
  ·exact Sa
  ·exact SV (fun _ _ _ F H => Ld 2 one_22 F H)
  ·exact Sa
  ·intro L A w up hun hd F H
   have f5 : L 5 = false := hun
   rw [f5] at H
   refine step_on rfl (d_store (i := 0) (xs := [iI 1]) (us := L145) sz_3 F H rfl rfl rfl rfl rfl rfl rfl (Nat.le_of_ble_eq_true rfl) rfl) ?_
   intro xv w' H
   exact ⟨Cn, H⟩
  ·exact Sa
  ·intro L A w up hun hd F H
   have t5 : L 5 = true := hd 5 rfl
   rw [t5] at H
   refine step_on rfl (d_store (i := 0) (xs := [iU 0]) (us := L145) sz_22 F H rfl rfl rfl rfl rfl rfl rfl (Nat.le_of_ble_eq_true rfl) rfl) ?_
   intro xv w' H
   exact ⟨Cn, (by show Sx.Own _ _ _ _ _; rw [show Inv.add L 7 5 = true from t5]; exact H)⟩
 ·intro L A w hL F H
  have t5 : L 5 = true := hL 5 rfl
  rw [t5] at H
  have H := H.pickN 3 0 [0, 1, 2] []
  have F := F.tq (L148 g1 g2 g3) rfl
  refine hK3 _ _ (Sp fun _ kk => Av F fun A F => ?_)
  refine Zs 1 L145 sz_71 F H fun A w F H => ?_
  refine Av F fun A F => ?_
  refine Nl kk (Wr (ret2 F Tryz.results86 (res_row (i := 1) (xs := L145) rw_71 F H rfl rfl rfl rfl) (res_tmp F rfl) ?_))
  exact ⟨_, rfl, rfl, H.pickN 3 0 [] []⟩
theorem cx2 (H : Sx.Own w0 w bs rs K) : Cr 87 #[iI 0, iI 65535] w0 w bT bs rs K := by
 refine En Tryz.func87 Tryz.ntmps87 fun A F => ?_
 refine Sp fun _ kk => Av F fun A F => ?_
 refine Nl kk (Sp fun _ kk => ?_)
 iterate 8 (refine Av F ?_; intro A F)
 refine Nl kk (Wr (ret1 F Tryz.results87 (res_tmp F rfl) ?_))
 exact ⟨_, rfl, rfl, H.pickN 0 0 [] []⟩
theorem cx3 (H : Sx.Own w0 w bs rs K) : Cr 87 #[iI 1, iI 255] w0 w bT bs rs K := by
 refine En Tryz.func87 Tryz.ntmps87 fun A F => ?_
 refine Sp fun _ kk => Av F fun A F => ?_
 refine Nl kk (Sp fun _ kk => ?_)
 iterate 8 (refine Av F ?_; intro A F)
 refine Nl kk (Wr (ret1 F Tryz.results87 (res_tmp F rfl) ?_))
 exact ⟨_, rfl, rfl, H.pickN 0 0 [] []⟩
theorem cx4 (H : Sx.Own w0 w bs rs K) : Cr 59 #[L144] w0 w (iI 0) bs rs K := by
 refine En Tryz.func59 Tryz.ntmps59 fun A F => ?_
 refine Sp fun _ kk => Zb F (d_box F H rfl rfl L145 rfl) fun g1 A w F H => ?_
 refine Av F fun A F => ?_
 refine Nl kk (Sp fun _ kk => Av F fun A F => ?_)
 refine Zx F (Do if_86 F (cx1 H)) ?_
 rintro _ w ⟨rfl, H⟩ A F
 iterate 3 (refine Av F ?_; intro A F)
 refine Zb F (d_alloc H rfl L146 zero_71) fun g2 A w F H => ?_
 refine Zs 0 L145 sz_71 F H fun A w F H => ?_
 refine Av F fun A F => ?_
 refine Nl kk (Sp fun _ kk => ?_)
 iterate 38 (refine Av F ?_; intro A F)
 refine Zn bT F fun A F => ?_
 iterate 4 (refine Av F ?_; intro A F)
 refine Zv F (d_lenS el_66 F rfl rfl) fun A F => ?_
 iterate 2 (refine Av F ?_; intro A F)
 refine Zv F (d_lenS el_66 F rfl rfl) fun A F => ?_
 iterate 3 (refine Av F ?_; intro A F)
 refine Nl kk (Sx.seq fun K4 hK4 => Sp fun _ kk => Av F fun A F => ?_)
 refine Zv F (d_un (v := bF) F rfl rfl rfl) fun A F => ?_
 iterate 2 (refine Av F ?_; intro A F)
 refine Zv F (d_un (v := bF) F rfl rfl rfl) fun A F => ?_
 iterate 4 (refine Av F ?_; intro A F)
 refine Zx F (Do if_87 F (cx2 H)) ?_
 rintro _ w ⟨rfl, H⟩ A F
 refine Zv F (d_un (v := bF) F rfl rfl rfl) fun A F => ?_
 iterate 4 (refine Av F ?_; intro A F)
 refine Zx F (Do if_87 F (cx2 H)) ?_
 rintro _ w ⟨rfl, H⟩ A F
 refine Zv F (d_un (v := bF) F rfl rfl rfl) fun A F => ?_
 iterate 4 (refine Av F ?_; intro A F)
 refine Zx F (Do if_87 F (cx3 H)) ?_
 rintro _ w ⟨rfl, H⟩ A F
 refine Zv F (d_un (v := bF) F rfl rfl rfl) fun A F => ?_
 iterate 4 (refine Av F ?_; intro A F)
 refine Zv F (d_lenS el_66 F rfl rfl) fun A F => ?_
 iterate 2 (refine Av F ?_; intro A F)
 refine Nl kk (condF F rfl (wp_skip (hK4 _ _ (Sp fun _ kk => Av F fun A F => ?_))))
 refine Nl kk (Wr (ret1 F Tryz.results59 (res_tmp F rfl) ?_))
 exact ⟨_, rfl, rfl, H.pickN 2 0 [] []⟩
abbrev L149 : List Value := [iB 1, iB 0, iB 0, iB 0, iB 0, iB 0, iB 0, iB 0, iB 0, iB 0, iB 0, iB 0, iB 0, iB 0, iB 0, iB 0]
theorem cx5 (H : Sx.Own w0 w bs rs K) : Cq 89 #[iU 1, iI 1] w fun x w' => ∃ g1 c1 : Nat, 16 ≤ c1 ∧ x = sL g1 0 1 c1 ∧ Sx.Own w0 w' (Bt g1 L149 :: bs) rs K := by
 refine En Tryz.func89 Tryz.ntmps89 fun A F => ?_
 refine Sp fun _ kk => Av F fun A F => ?_
 refine Nl kk (Sp fun _ kk => Av F fun A F => ?_)
 refine Zw F (d_call (vs := [iU 1]) (v := .agg #[iU 0, iU 1]) if_15 F H rfl rfl (Calls.val (v := L17) (Calls.val (wofV_c 1#64 _) (by kernel_rfl) (by kernel_rfl)) rfl (by kernel_rfl))) fun A w F H => ?_
 refine Zr (mk := fun v => v) F (d_callR (vs := [.agg #[iU 0, iU 1]]) (mk := fun v => v) if_90 F H rfl rfl (wput_c 1#128 _)) fun v1 A w F H => ?_
 have H := H.xs (i := 0) (ys := L149) rfl (by kernel_rfl)
 obtain ⟨g1, c1, rfl, hbc1, hdc1⟩ := H.open (i := 0) rfl (by decide)
 refine Av F fun A F => ?_
 have H := H.rowBox (i := 0) rfl
 refine Zv F (d_sliceH (h := 1) el_66 F rfl rfl rfl rfl (by omega)) fun A F => ?_
 refine Av F fun A F => ?_
 refine Nl kk (Wr (ret1 F Tryz.results89 (res_tmp F rfl) ?_))
 exact ⟨_, rfl, g1, c1, (by omega), rfl, H.pickN 1 1 [0] []⟩
theorem cx6 (hbc1 : 1 ≤ c1) (H : Sx.Own w0 w (Bt g1 [sL g2 0 1 c1] :: bs) (⟨true, sL g2 0 1 c1, 5, 1, 1, [iB 0]⟩ :: rs) K) : Cq 88 #[iU 1, iI 1, pT g1 0] w fun x w' => ∃ g5 c4 : Nat, 2 ≤ c4 ∧ x = .tuple #[] ∧ Sx.Own w0 w' (Bt g1 [sL g5 0 2 c4] :: bs) (⟨true, sL g5 0 2 c4, 5, 1, 2, [iB 0, iB 1]⟩ :: rs) K := by
 refine En Tryz.func88 Tryz.ntmps88 fun A F => ?_
 have F := F.tq [(0, iU 1), (1, iI 1), (2, pT g1 0)] rfl
 refine Dn F [some (sL g2 0 1 c1), some (iU 1), some (iI 1), none, none, none] (fun L A w => ∃ g3 : Nat, ∃ c2 : Nat, ∃ v1 : Value, (L 3 = true → A.eval (.tmp 8) = sL g3 0 1 c2) ∧ (L 4 = true → A.eval (.tmp 9) = v1) ∧ (L 3 = true → 16 ≤ c2) ∧ Sx.Own w0 w ((L 3, g3, L149) :: Bt g1 (cond (L 5) [v1] [sL g2 0 1 c1]) :: bs) (⟨L 4, v1, 5, 1, 2, [iB 0, iB 1]⟩ :: ⟨cond (L 4) false (true), sL g2 0 1 c1, 5, 1, 1, [iB 0]⟩ :: rs) K) ⟨0, 0, undef, (fun h => by cases h), (fun h => by cases h), (fun h => by cases h), H.drew.padG [(false, 0, L149)] [⟨false, undef, 5, 1, 2, [iB 0, iB 1]⟩] rfl rfl⟩ ?_ ?_
 ·refine ⟨?_, ?_, ?_, ?_, ?_, ?_, trivial⟩
  ·intro L A w up hun hd F ⟨g3, c2, v1, p3, p4, qc2, H⟩
   have f4 : L 4 = false := up 4 0 rfl hun
   have f5 : L 5 = false := up 5 0 rfl hun
   have Hj := H; rw [f4, f5] at Hj
   refine step_on rfl (Ld 1 one_66 F Hj) ?_
   rintro xv w' ⟨hx, rfl⟩
   exact ⟨Cs hx, ⟨g3, c2, v1, Pk p3, Nf f4, qc2, H⟩⟩
  ·intro L A w up hun hd F ⟨g3, c2, v1, p3, p4, qc2, H⟩
   have f3 : L 3 = false := up 3 1 rfl hun
   have f4 : L 4 = false := up 4 3 rfl f3
   have f5 : L 5 = false := up 5 1 rfl hun
   have Hj := H; rw [f3, f4, f5] at Hj
   refine step_on rfl (d_move F (Or.inl rfl) rfl) ?_
   rintro xv w' ⟨hx, rfl⟩
   exact ⟨Cs hx, ⟨g3, c2, v1, Nf f3, Nf f4, Nf f3, H⟩⟩
  ·intro L A w up hun hd F ⟨g3, c2, v1, p3, p4, qc2, H⟩
   have f3 : L 3 = false := up 3 2 rfl hun
   have f4 : L 4 = false := up 4 3 rfl f3
   have f5 : L 5 = false := up 5 2 rfl hun
   have Hj := H; rw [f3, f4, f5] at Hj
   refine step_on rfl (d_move F (Or.inl rfl) rfl) ?_
   rintro xv w' ⟨hx, rfl⟩
   exact ⟨Cs hx, ⟨g3, c2, v1, Nf f3, Nf f4, Nf f3, H⟩⟩
  ·intro L A w up hun hd F ⟨g3, c2, v1, p3, p4, qc2, H⟩
   have f3 : L 3 = false := hun
   have f4 : L 4 = false := up 4 3 rfl hun
   have f5 : L 5 = false := up 5 3 rfl hun
   rw [f3, f4, f5] at H
   have H : Sx.Own w0 w ((false, g3, L149) :: Bt g1 [sL g2 0 1 c1] :: bs) (⟨false, v1, 5, 1, 2, [iB 0, iB 1]⟩ :: ⟨true, sL g2 0 1 c1, 5, 1, 1, [iB 0]⟩ :: rs) K := H
   have H := H.pickN 2 2 [0, 1] [1]
   refine step_on rfl (Do if_89 F (cx5 H)) ?_
   rintro xv w' ⟨g4, c3, hbc3, hx, H⟩
   have H := H.padG [] [⟨false, v1, 5, 1, 2, [iB 0, iB 1]⟩] rfl rfl
   have H := H.pickN 3 2 [0, 2] [0, 1]
   exact ⟨Cn, ⟨g4, c3, v1, (fun _ => (Sx.put_same F (by decide) _).trans hx), Nf f4, (fun _ => by omega), (by show Sx.Own _ _ _ _ _; rw [show Inv.add L 3 4 = false from f4, show Inv.add L 3 5 = false from f5]; exact H)⟩⟩
  ·intro L A w up hun hd F ⟨g3, c2, v1, p3, p4, qc2, H⟩
   have t3 : L 3 = true := hd 3 rfl
   have f4 : L 4 = false := hun
   have f5 : L 5 = false := up 5 4 rfl hun
   rw [t3, f4, f5] at H
   have hbc2 := qc2 t3
   have F := Fr.add F (p3 t3)
   refine step_on rfl (d_appendW (i := 1) (news := [iB 1]) el_66 F H rfl rfl rfl rfl rfl (fun j u hu => Sx.box_part (news := [iB 1]) (H.box 0 g3 _ rfl).1 rfl j u hu) rfl rfl (by decide) (by decide)) ?_
   rintro xv w' ⟨v2, hx, H⟩
   have H := H.padG [] [⟨false, sL g2 0 1 c1, 5, 1, 1, [iB 0]⟩] rfl rfl
   have H := H.pickN 2 3 [0, 1] [2, 0]
   exact ⟨Cn, ⟨g3, c2, v2, Pk p3, (fun _ => (Sx.put_same F (by decide) _).trans hx), qc2, (by show Sx.Own _ _ _ _ _; rw [show Inv.add L 4 3 = true from t3, show Inv.add L 4 5 = false from f5]; exact H)⟩⟩
  ·intro L A w up hun hd F ⟨g3, c2, v1, p3, p4, qc2, H⟩
   have t3 : L 3 = true := hd 3 rfl
   have t4 : L 4 = true := hd 4 rfl
   have f5 : L 5 = false := hun
   rw [t3, t4, f5] at H
   have hbc2 := qc2 t3
   have F := Fr.add F (p3 t3)
   have F := Fr.add F (p4 t4)
   refine step_on rfl (d_store (i := 1) (xs := [v1]) (us := [v1]) sz_66 F H rfl rfl rfl (by obtain ⟨_, _, hv0⟩ := Sx.len_of (k := 2) (v := v1) (rowEq (H.row 0 _ rfl rfl) rfl rfl rfl rfl rfl); rw [hv0]; rfl) rfl (by obtain ⟨_, _, hv0⟩ := Sx.len_of (k := 2) (v := v1) (rowEq (H.row 0 _ rfl rfl) rfl rfl rfl rfl rfl); rw [hv0]; rfl) rfl (Nat.le_of_ble_eq_true rfl) rfl) ?_
   intro xv w' H
   exact ⟨Cn, ⟨g3, c2, v1, p3, p4, qc2, (by show Sx.Own _ _ _ _ _; rw [show Inv.add L 5 3 = true from t3, show Inv.add L 5 4 = true from t4]; exact H)⟩⟩
 ·intro L A w hL F ⟨g3, c2, v1, p3, p4, qc2, H⟩
  have t3 : L 3 = true := hL 3 rfl
  have t4 : L 4 = true := hL 4 rfl
  have t5 : L 5 = true := hL 5 rfl
  rw [t3, t4, t5] at H
  have F := Fr.add F (p3 t3)
  have F := Fr.add F (p4 t4)
  have hbc2 := qc2 t3
  have H := H.pickN 2 2 [0, 1] [0]
  have F := F.tq [] rfl
  obtain ⟨g5, c4, rfl, hbc4, hdc4⟩ := H.open (i := 0) rfl (by decide)
  try dsimp only [Exit.then, Exit.inBlock, Exit.jump, Exit.noGoto]
  refine Sx.end0 F Tryz.results88 ?_
  exact ⟨_, rfl, g5, c4, (by omega), rfl, H.pickN 2 1 [1] [0]⟩
abbrev L150 : List Value := [iB 0, iB 0, iB 0, iB 0, iB 0, iB 0, iB 0, iB 0, iB 0, iB 0, iB 0, iB 0, iB 0, iB 0, iB 0, iB 0]
theorem cx7 (H : Sx.Own w0 w bs rs K) : Cq 89 #[iU 0, iI 8] w fun x w' => ∃ g1 c1 : Nat, 16 ≤ c1 ∧ x = sL g1 0 8 c1 ∧ Sx.Own w0 w' (Bt g1 L150 :: bs) rs K := by
 refine En Tryz.func89 Tryz.ntmps89 fun A F => ?_
 refine Sp fun _ kk => Av F fun A F => ?_
 refine Nl kk (Sp fun _ kk => Av F fun A F => ?_)
 refine Zw F (d_call (vs := [iU 0]) (v := .agg #[iU 0, iU 0]) if_15 F H rfl rfl (Calls.val (v := L2) (Calls.val (wofV_c 0#64 _) (by kernel_rfl) (by kernel_rfl)) rfl (by kernel_rfl))) fun A w F H => ?_
 refine Zr (mk := fun v => v) F (d_callR (vs := [.agg #[iU 0, iU 0]]) (mk := fun v => v) if_90 F H rfl rfl (wput_c 0#128 _)) fun v1 A w F H => ?_
 have H := H.xs (i := 0) (ys := L150) rfl (by kernel_rfl)
 obtain ⟨g1, c1, rfl, hbc1, hdc1⟩ := H.open (i := 0) rfl (by decide)
 refine Av F fun A F => ?_
 have H := H.rowBox (i := 0) rfl
 refine Zv F (d_sliceH (h := 8) el_66 F rfl rfl rfl rfl (by omega)) fun A F => ?_
 refine Av F fun A F => ?_
 refine Nl kk (Wr (ret1 F Tryz.results89 (res_tmp F rfl) ?_))
 exact ⟨_, rfl, g1, c1, (by omega), rfl, H.pickN 1 1 [0] []⟩
abbrev L151 : List Value := [iB 0, iB 1, iB 0, iB 0, iB 0, iB 0, iB 0, iB 0, iB 0, iB 0]
abbrev L152 : List Sx.Bx := [(false, 0, [iB 0, iB 0, iB 0, iB 0, iB 0, iB 0, iB 0, iB 0, iB 0, iB 0, iB 0, iB 0, iB 0, iB 0, iB 0, iB 0])]
abbrev L153 : List Value := [iB 0, iB 0, iB 0, iB 0, iB 0, iB 0, iB 0, iB 0]
theorem cx8 (hbc1 : 2 ≤ c1) (H : Sx.Own w0 w (Bt g1 [sL g2 0 2 c1] :: bs) (⟨true, sL g2 0 2 c1, 5, 1, 2, [iB 0, iB 1]⟩ :: rs) K) : Cq 88 #[iU 0, iI 8, pT g1 0] w fun x w' => ∃ g5 c4 : Nat, 10 ≤ c4 ∧ x = .tuple #[] ∧ Sx.Own w0 w' (Bt g1 [sL g5 0 10 c4] :: bs) (⟨true, sL g5 0 10 c4, 5, 1, 10, L151⟩ :: rs) K := by
 refine En Tryz.func88 Tryz.ntmps88 fun A F => ?_
 have F := F.tq [(0, iU 0), (1, iI 8), (2, pT g1 0)] rfl
 refine Dn F [some (sL g2 0 2 c1), some (iU 0), some (iI 8), none, none, none] (fun L A w => ∃ g3 : Nat, ∃ c2 : Nat, ∃ v1 : Value, (L 3 = true → A.eval (.tmp 8) = sL g3 0 8 c2) ∧ (L 4 = true → A.eval (.tmp 9) = v1) ∧ (L 3 = true → 16 ≤ c2) ∧ Sx.Own w0 w ((L 3, g3, L150) :: Bt g1 (cond (L 5) [v1] [sL g2 0 2 c1]) :: bs) (⟨L 4, v1, 5, 1, 10, L151⟩ :: ⟨cond (L 4) false (true), sL g2 0 2 c1, 5, 1, 2, [iB 0, iB 1]⟩ :: rs) K) ⟨0, 0, undef, (fun h => by cases h), (fun h => by cases h), (fun h => by cases h), H.drew.padG L152 [⟨false, undef, 5, 1, 10, L151⟩] rfl rfl⟩ ?_ ?_
 ·refine ⟨?_, ?_, ?_, ?_, ?_, ?_, trivial⟩
  ·intro L A w up hun hd F ⟨g3, c2, v1, p3, p4, qc2, H⟩
   have f4 : L 4 = false := up 4 0 rfl hun
   have f5 : L 5 = false := up 5 0 rfl hun
   have Hj := H; rw [f4, f5] at Hj
   refine step_on rfl (Ld 1 one_66 F Hj) ?_
   rintro xv w' ⟨hx, rfl⟩
   exact ⟨Cs hx, ⟨g3, c2, v1, Pk p3, Nf f4, qc2, H⟩⟩
  ·intro L A w up hun hd F ⟨g3, c2, v1, p3, p4, qc2, H⟩
   have f3 : L 3 = false := up 3 1 rfl hun
   have f4 : L 4 = false := up 4 3 rfl f3
   have f5 : L 5 = false := up 5 1 rfl hun
   have Hj := H; rw [f3, f4, f5] at Hj
   refine step_on rfl (d_move F (Or.inl rfl) rfl) ?_
   rintro xv w' ⟨hx, rfl⟩
   exact ⟨Cs hx, ⟨g3, c2, v1, Nf f3, Nf f4, Nf f3, H⟩⟩
  ·intro L A w up hun hd F ⟨g3, c2, v1, p3, p4, qc2, H⟩
   have f3 : L 3 = false := up 3 2 rfl hun
   have f4 : L 4 = false := up 4 3 rfl f3
   have f5 : L 5 = false := up 5 2 rfl hun
   have Hj := H; rw [f3, f4, f5] at Hj
   refine step_on rfl (d_move F (Or.inl rfl) rfl) ?_
   rintro xv w' ⟨hx, rfl⟩
   exact ⟨Cs hx, ⟨g3, c2, v1, Nf f3, Nf f4, Nf f3, H⟩⟩
  ·intro L A w up hun hd F ⟨g3, c2, v1, p3, p4, qc2, H⟩
   have f3 : L 3 = false := hun
   have f4 : L 4 = false := up 4 3 rfl hun
   have f5 : L 5 = false := up 5 3 rfl hun
   rw [f3, f4, f5] at H
   have H : Sx.Own w0 w ((false, g3, L150) :: Bt g1 [sL g2 0 2 c1] :: bs) (⟨false, v1, 5, 1, 10, L151⟩ :: ⟨true, sL g2 0 2 c1, 5, 1, 2, [iB 0, iB 1]⟩ :: rs) K := H
   have H := H.pickN 2 2 [0, 1] [1]
   refine step_on rfl (Do if_89 F (cx7 H)) ?_
   rintro xv w' ⟨g4, c3, hbc3, hx, H⟩
   have H := H.padG [] [⟨false, v1, 5, 1, 10, L151⟩] rfl rfl
   have H := H.pickN 3 2 [0, 2] [0, 1]
   exact ⟨Cn, ⟨g4, c3, v1, (fun _ => (Sx.put_same F (by decide) _).trans hx), Nf f4, (fun _ => by omega), (by show Sx.Own _ _ _ _ _; rw [show Inv.add L 3 4 = false from f4, show Inv.add L 3 5 = false from f5]; exact H)⟩⟩
  ·intro L A w up hun hd F ⟨g3, c2, v1, p3, p4, qc2, H⟩
   have t3 : L 3 = true := hd 3 rfl
   have f4 : L 4 = false := hun
   have f5 : L 5 = false := up 5 4 rfl hun
   rw [t3, f4, f5] at H
   have hbc2 := qc2 t3
   have F := Fr.add F (p3 t3)
   refine step_on rfl (d_appendW (i := 1) (news := L153) el_66 F H rfl rfl rfl rfl rfl (fun j u hu => Sx.box_part (news := L153) (H.box 0 g3 _ rfl).1 rfl j u hu) rfl rfl (by decide) (by decide)) ?_
   rintro xv w' ⟨v2, hx, H⟩
   have H := H.padG [] [⟨false, sL g2 0 2 c1, 5, 1, 2, [iB 0, iB 1]⟩] rfl rfl
   have H := H.pickN 2 3 [0, 1] [2, 0]
   exact ⟨Cn, ⟨g3, c2, v2, Pk p3, (fun _ => (Sx.put_same F (by decide) _).trans hx), qc2, (by show Sx.Own _ _ _ _ _; rw [show Inv.add L 4 3 = true from t3, show Inv.add L 4 5 = false from f5]; exact H)⟩⟩
  ·intro L A w up hun hd F ⟨g3, c2, v1, p3, p4, qc2, H⟩
   have t3 : L 3 = true := hd 3 rfl
   have t4 : L 4 = true := hd 4 rfl
   have f5 : L 5 = false := hun
   rw [t3, t4, f5] at H
   have hbc2 := qc2 t3
   have F := Fr.add F (p3 t3)
   have F := Fr.add F (p4 t4)
   refine step_on rfl (d_store (i := 1) (xs := [v1]) (us := [v1]) sz_66 F H rfl rfl rfl (by obtain ⟨_, _, hv0⟩ := Sx.len_of (k := 10) (v := v1) (rowEq (H.row 0 _ rfl rfl) rfl rfl rfl rfl rfl); rw [hv0]; rfl) rfl (by obtain ⟨_, _, hv0⟩ := Sx.len_of (k := 10) (v := v1) (rowEq (H.row 0 _ rfl rfl) rfl rfl rfl rfl rfl); rw [hv0]; rfl) rfl (Nat.le_of_ble_eq_true rfl) rfl) ?_
   intro xv w' H
   exact ⟨Cn, ⟨g3, c2, v1, p3, p4, qc2, (by show Sx.Own _ _ _ _ _; rw [show Inv.add L 5 3 = true from t3, show Inv.add L 5 4 = true from t4]; exact H)⟩⟩
 ·intro L A w hL F ⟨g3, c2, v1, p3, p4, qc2, H⟩
  have t3 : L 3 = true := hL 3 rfl
  have t4 : L 4 = true := hL 4 rfl
  have t5 : L 5 = true := hL 5 rfl
  rw [t3, t4, t5] at H
  have F := Fr.add F (p3 t3)
  have F := Fr.add F (p4 t4)
  have hbc2 := qc2 t3
  have H := H.pickN 2 2 [0, 1] [0]
  have F := F.tq [] rfl
  obtain ⟨g5, c4, rfl, hbc4, hdc4⟩ := H.open (i := 0) rfl (by decide)
  try dsimp only [Exit.then, Exit.inBlock, Exit.jump, Exit.noGoto]
  refine Sx.end0 F Tryz.results88 ?_
  exact ⟨_, rfl, g5, c4, (by omega), rfl, H.pickN 2 1 [1] [0]⟩
theorem cx9 (H : Sx.Own w0 w bs rs K) : Cq 60 #[L144] w fun x w' => ∃ g5 c3 : Nat, 10 ≤ c3 ∧ x = sL g5 0 10 c3 ∧ Sx.Own w0 w' (bs) (⟨true, sL g5 0 10 c3, 5, 1, 10, L151⟩ :: rs) K := by
 refine En Tryz.func60 Tryz.ntmps60 fun A F => ?_
 refine Sp fun _ kk => Zb F (d_box F H rfl rfl L145 rfl) fun g1 A w F H => ?_
 refine Av F fun A F => ?_
 refine Nl kk (Sp fun _ kk => ?_)
 iterate 2 (refine Av F ?_; intro A F)
 refine Zv F (d_conv (v := iB 0) F rfl rfl (by kernel_rfl)) fun A F => ?_
 refine Zr (mk := fun v => v) F (d_litR (qs := #[(0, iB 0)]) (cs := #[iB 0]) (E := 5) (z := 1) F H rfl rfl (fun _ => by kernel_rfl) rfl (by decide)) fun v1 A w F H => ?_
 obtain ⟨g2, c1, rfl, hbc1, hdc1⟩ := H.open (i := 0) rfl (by decide)
 refine Zb F (d_alloc H rfl [nS] zero_66) fun g3 A w F H => ?_
 refine Zs 0 [sL g2 0 1 c1] sz_66 F H fun A w F H => ?_
 refine Nl kk (Sp fun _ kk => Zv F (d_mkFunc (fv := []) (cv := [pT g3 0]) F rfl rfl rfl) fun A F => ?_)
 refine Av F fun A F => ?_
 refine Nl kk (Sx.seq fun K4 hK4 => Sp fun _ kk => ?_)
 iterate 2 (refine Av F ?_; intro A F)
 refine Nl kk (wp_block (Sp fun _ kk => ?_))
 iterate 2 (refine Av F ?_; intro A F)
 refine Nl kk (condT F rfl (Sp fun _ kk => ?_))
 iterate 3 (refine Av F ?_; intro A F)
 refine Zv F (d_conv (v := iU 1) F rfl rfl (by kernel_rfl)) fun A F => ?_
 refine Zx F (d_callCO (fv := []) (vs := [iU 1, iI 1]) (cv := [pT g3 0]) if_88 F rfl rfl rfl (cx6 (by omega) H)) ?_
 rintro _ w ⟨g4, c2, hbc2, rfl, H⟩ A F
 refine Nl kk (Sx.plain ?_)
 iterate 3 (refine Av F ?_; intro A F)
 refine Zx F (d_callCO (fv := []) (vs := [iU 0, iI 8]) (cv := [pT g3 0]) if_88 F rfl rfl rfl (cx8 (by omega) H)) ?_
 rintro _ w ⟨g5, c3, hbc3, rfl, H⟩ A F
 refine Sx.nil (hK4 _ _ (Sx.seq fun K8 hK8 => Sp fun _ kk => ?_))
 iterate 2 (refine Av F ?_; intro A F)
 refine Nl kk (wp_block (Sx.seq fun K10 hK10 => Sp fun _ kk => ?_))
 iterate 2 (refine Av F ?_; intro A F)
 refine Nl kk (condF F rfl (Sx.plain ?_))
 iterate 2 (refine Av F ?_; intro A F)
 refine Sx.nil (hK10 _ _ (condF F rfl (Sp fun _ kk => ?_)))
 iterate 2 (refine Av F ?_; intro A F)
 refine Nl kk (condF F rfl (Sp fun _ kk => ?_))
 iterate 2 (refine Av F ?_; intro A F)
 refine Nl kk (condF F rfl (wp_skip (hK8 _ _ (Sp fun _ kk => ?_))))
 iterate 2 (refine Av F ?_; intro A F)
 refine Nl kk (Wr (ret1 F Tryz.results60 (res_tmp F rfl) ?_))
 exact ⟨_, rfl, g5, c3, (by omega), rfl, H.pickN 2 1 [] [0]⟩
abbrev L154 : Value := .agg #[iI 1, iI 0, iI 0, iI 0, iU 0, iU 0, iU 0, iU 0, nS]
abbrev L155 : List Value := [iI 1, iI 0, iI 0, iI 0, iU 0, iU 0, iU 0, iU 0, nS]
theorem cx10 (H : Sx.Own w0 w bs rs K) : Cr 86 #[L154] w0 w (.tuple #[L154, bT]) bs rs K := by
 refine En Tryz.func86 Tryz.ntmps86 fun A F => ?_
 refine Sp fun _ kk => Zb F (d_box F H rfl rfl L155 rfl) fun g1 A w F H => ?_
 refine Zb F (d_alloc H rfl L146 zero_71) fun g2 A w F H => ?_
 refine Av F fun A F => ?_
 refine Nl kk (Sp fun _ kk => ?_)
 iterate 2 (refine Av F ?_; intro A F)
 refine Zv F (d_build (qs := #[(0, iI 1)]) (v := L154) F rfl rfl (by kernel_rfl)) fun A F => ?_
 refine Zb F (d_alloc H rfl L146 zero_71) fun g3 A w F H => ?_
 refine Zs 0 L155 sz_71 F H fun A w F H => ?_
 refine Nl kk (Sx.seq fun K3 hK3 => Sp fun _ kk => ?_)
 iterate 2 (refine Av F ?_; intro A F)
 refine Nl kk (wp_block (Sp fun _ kk => ?_))
 iterate 2 (refine Av F ?_; intro A F)
 refine Nl kk (condF F rfl (Sx.seq fun K6 hK6 => Sp fun _ kk => ?_))
 iterate 2 (refine Av F ?_; intro A F)
 refine Nl kk (condT F rfl (wp_skip (hK6 _ _ (condT F rfl (Sx.plain ?_)))))
 iterate 3 (refine Av F ?_; intro A F)
 refine Zs 0 L155 sz_3 F H fun A w F H => ?_
 refine Sx.nil (hK3 _ _ (Sp fun _ kk => Av F fun A F => ?_))
 refine Zs 1 L155 sz_71 F H fun A w F H => ?_
 refine Av F fun A F => ?_
 refine Nl kk (Wr (ret2 F Tryz.results86 (res_row (i := 1) (xs := L155) rw_71 F H rfl rfl rfl rfl) (res_tmp F rfl) ?_))
 exact ⟨_, rfl, rfl, H.pickN 3 0 [] []⟩
theorem cx11 (H : Sx.Own w0 w bs rs K) : Cr 87 #[iI 0, iI 255] w0 w bT bs rs K := by
 refine En Tryz.func87 Tryz.ntmps87 fun A F => ?_
 refine Sp fun _ kk => Av F fun A F => ?_
 refine Nl kk (Sp fun _ kk => ?_)
 iterate 8 (refine Av F ?_; intro A F)
 refine Nl kk (Wr (ret1 F Tryz.results87 (res_tmp F rfl) ?_))
 exact ⟨_, rfl, rfl, H.pickN 0 0 [] []⟩
theorem cx12 (H : Sx.Own w0 w bs rs K) : Cr 59 #[L154] w0 w (iI 0) bs rs K := by
 refine En Tryz.func59 Tryz.ntmps59 fun A F => ?_
 refine Sp fun _ kk => Zb F (d_box F H rfl rfl L155 rfl) fun g1 A w F H => ?_
 refine Av F fun A F => ?_
 refine Nl kk (Sp fun _ kk => Av F fun A F => ?_)
 refine Zx F (Do if_86 F (cx10 H)) ?_
 rintro _ w ⟨rfl, H⟩ A F
 iterate 3 (refine Av F ?_; intro A F)
 refine Zb F (d_alloc H rfl L146 zero_71) fun g2 A w F H => ?_
 refine Zs 0 L155 sz_71 F H fun A w F H => ?_
 refine Av F fun A F => ?_
 refine Nl kk (Sp fun _ kk => ?_)
 iterate 38 (refine Av F ?_; intro A F)
 refine Zn bT F fun A F => ?_
 iterate 4 (refine Av F ?_; intro A F)
 refine Zv F (d_lenS el_66 F rfl rfl) fun A F => ?_
 iterate 2 (refine Av F ?_; intro A F)
 refine Zv F (d_lenS el_66 F rfl rfl) fun A F => ?_
 iterate 3 (refine Av F ?_; intro A F)
 refine Nl kk (Sx.seq fun K4 hK4 => Sp fun _ kk => Av F fun A F => ?_)
 refine Zv F (d_un (v := bF) F rfl rfl rfl) fun A F => ?_
 iterate 2 (refine Av F ?_; intro A F)
 refine Zv F (d_un (v := bF) F rfl rfl rfl) fun A F => ?_
 iterate 4 (refine Av F ?_; intro A F)
 refine Zx F (Do if_87 F (cx2 H)) ?_
 rintro _ w ⟨rfl, H⟩ A F
 refine Zv F (d_un (v := bF) F rfl rfl rfl) fun A F => ?_
 iterate 4 (refine Av F ?_; intro A F)
 refine Zx F (Do if_87 F (cx2 H)) ?_
 rintro _ w ⟨rfl, H⟩ A F
 refine Zv F (d_un (v := bF) F rfl rfl rfl) fun A F => ?_
 iterate 4 (refine Av F ?_; intro A F)
 refine Zx F (Do if_87 F (cx11 H)) ?_
 rintro _ w ⟨rfl, H⟩ A F
 refine Zv F (d_un (v := bF) F rfl rfl rfl) fun A F => ?_
 iterate 4 (refine Av F ?_; intro A F)
 refine Zv F (d_lenS el_66 F rfl rfl) fun A F => ?_
 iterate 2 (refine Av F ?_; intro A F)
 refine Nl kk (condF F rfl (wp_skip (hK4 _ _ (Sp fun _ kk => Av F fun A F => ?_))))
 refine Nl kk (Wr (ret1 F Tryz.results59 (res_tmp F rfl) ?_))
 exact ⟨_, rfl, rfl, H.pickN 2 0 [] []⟩
theorem cx13 (H : Sx.Own w0 w bs rs K) : Cq 89 #[iU 0, iI 2] w fun x w' => ∃ g1 c1 : Nat, 16 ≤ c1 ∧ x = sL g1 0 2 c1 ∧ Sx.Own w0 w' (Bt g1 L150 :: bs) rs K := by
 refine En Tryz.func89 Tryz.ntmps89 fun A F => ?_
 refine Sp fun _ kk => Av F fun A F => ?_
 refine Nl kk (Sp fun _ kk => Av F fun A F => ?_)
 refine Zw F (d_call (vs := [iU 0]) (v := .agg #[iU 0, iU 0]) if_15 F H rfl rfl (Calls.val (v := L2) (Calls.val (wofV_c 0#64 _) (by kernel_rfl) (by kernel_rfl)) rfl (by kernel_rfl))) fun A w F H => ?_
 refine Zr (mk := fun v => v) F (d_callR (vs := [.agg #[iU 0, iU 0]]) (mk := fun v => v) if_90 F H rfl rfl (wput_c 0#128 _)) fun v1 A w F H => ?_
 have H := H.xs (i := 0) (ys := L150) rfl (by kernel_rfl)
 obtain ⟨g1, c1, rfl, hbc1, hdc1⟩ := H.open (i := 0) rfl (by decide)
 refine Av F fun A F => ?_
 have H := H.rowBox (i := 0) rfl
 refine Zv F (d_sliceH (h := 2) el_66 F rfl rfl rfl rfl (by omega)) fun A F => ?_
 refine Av F fun A F => ?_
 refine Nl kk (Wr (ret1 F Tryz.results89 (res_tmp F rfl) ?_))
 exact ⟨_, rfl, g1, c1, (by omega), rfl, H.pickN 1 1 [0] []⟩
theorem cx14 (hbc1 : 1 ≤ c1) (H : Sx.Own w0 w (Bt g1 [sL g2 0 1 c1] :: bs) (⟨true, sL g2 0 1 c1, 5, 1, 1, [iB 1]⟩ :: rs) K) : Cq 88 #[iU 0, iI 2, pT g1 0] w fun x w' => ∃ g5 c4 : Nat, 3 ≤ c4 ∧ x = .tuple #[] ∧ Sx.Own w0 w' (Bt g1 [sL g5 0 3 c4] :: bs) (⟨true, sL g5 0 3 c4, 5, 1, 3, [iB 1, iB 0, iB 0]⟩ :: rs) K := by
 refine En Tryz.func88 Tryz.ntmps88 fun A F => ?_
 have F := F.tq [(0, iU 0), (1, iI 2), (2, pT g1 0)] rfl
 refine Dn F [some (sL g2 0 1 c1), some (iU 0), some (iI 2), none, none, none] (fun L A w => ∃ g3 : Nat, ∃ c2 : Nat, ∃ v1 : Value, (L 3 = true → A.eval (.tmp 8) = sL g3 0 2 c2) ∧ (L 4 = true → A.eval (.tmp 9) = v1) ∧ (L 3 = true → 16 ≤ c2) ∧ Sx.Own w0 w ((L 3, g3, L150) :: Bt g1 (cond (L 5) [v1] [sL g2 0 1 c1]) :: bs) (⟨L 4, v1, 5, 1, 3, [iB 1, iB 0, iB 0]⟩ :: ⟨cond (L 4) false (true), sL g2 0 1 c1, 5, 1, 1, [iB 1]⟩ :: rs) K) ⟨0, 0, undef, (fun h => by cases h), (fun h => by cases h), (fun h => by cases h), H.drew.padG L152 [⟨false, undef, 5, 1, 3, [iB 1, iB 0, iB 0]⟩] rfl rfl⟩ ?_ ?_
 ·refine ⟨?_, ?_, ?_, ?_, ?_, ?_, trivial⟩
  ·intro L A w up hun hd F ⟨g3, c2, v1, p3, p4, qc2, H⟩
   have f4 : L 4 = false := up 4 0 rfl hun
   have f5 : L 5 = false := up 5 0 rfl hun
   have Hj := H; rw [f4, f5] at Hj
   refine step_on rfl (Ld 1 one_66 F Hj) ?_
   rintro xv w' ⟨hx, rfl⟩
   exact ⟨Cs hx, ⟨g3, c2, v1, Pk p3, Nf f4, qc2, H⟩⟩
  ·intro L A w up hun hd F ⟨g3, c2, v1, p3, p4, qc2, H⟩
   have f3 : L 3 = false := up 3 1 rfl hun
   have f4 : L 4 = false := up 4 3 rfl f3
   have f5 : L 5 = false := up 5 1 rfl hun
   have Hj := H; rw [f3, f4, f5] at Hj
   refine step_on rfl (d_move F (Or.inl rfl) rfl) ?_
   rintro xv w' ⟨hx, rfl⟩
   exact ⟨Cs hx, ⟨g3, c2, v1, Nf f3, Nf f4, Nf f3, H⟩⟩
  ·intro L A w up hun hd F ⟨g3, c2, v1, p3, p4, qc2, H⟩
   have f3 : L 3 = false := up 3 2 rfl hun
   have f4 : L 4 = false := up 4 3 rfl f3
   have f5 : L 5 = false := up 5 2 rfl hun
   have Hj := H; rw [f3, f4, f5] at Hj
   refine step_on rfl (d_move F (Or.inl rfl) rfl) ?_
   rintro xv w' ⟨hx, rfl⟩
   exact ⟨Cs hx, ⟨g3, c2, v1, Nf f3, Nf f4, Nf f3, H⟩⟩
  ·intro L A w up hun hd F ⟨g3, c2, v1, p3, p4, qc2, H⟩
   have f3 : L 3 = false := hun
   have f4 : L 4 = false := up 4 3 rfl hun
   have f5 : L 5 = false := up 5 3 rfl hun
   rw [f3, f4, f5] at H
   have H : Sx.Own w0 w ((false, g3, L150) :: Bt g1 [sL g2 0 1 c1] :: bs) (⟨false, v1, 5, 1, 3, [iB 1, iB 0, iB 0]⟩ :: ⟨true, sL g2 0 1 c1, 5, 1, 1, [iB 1]⟩ :: rs) K := H
   have H := H.pickN 2 2 [0, 1] [1]
   refine step_on rfl (Do if_89 F (cx13 H)) ?_
   rintro xv w' ⟨g4, c3, hbc3, hx, H⟩
   have H := H.padG [] [⟨false, v1, 5, 1, 3, [iB 1, iB 0, iB 0]⟩] rfl rfl
   have H := H.pickN 3 2 [0, 2] [0, 1]
   exact ⟨Cn, ⟨g4, c3, v1, (fun _ => (Sx.put_same F (by decide) _).trans hx), Nf f4, (fun _ => by omega), (by show Sx.Own _ _ _ _ _; rw [show Inv.add L 3 4 = false from f4, show Inv.add L 3 5 = false from f5]; exact H)⟩⟩
  ·intro L A w up hun hd F ⟨g3, c2, v1, p3, p4, qc2, H⟩
   have t3 : L 3 = true := hd 3 rfl
   have f4 : L 4 = false := hun
   have f5 : L 5 = false := up 5 4 rfl hun
   rw [t3, f4, f5] at H
   have hbc2 := qc2 t3
   have F := Fr.add F (p3 t3)
   refine step_on rfl (d_appendW (i := 1) (news := [iB 0, iB 0]) el_66 F H rfl rfl rfl rfl rfl (fun j u hu => Sx.box_part (news := [iB 0, iB 0]) (H.box 0 g3 _ rfl).1 rfl j u hu) rfl rfl (by decide) (by decide)) ?_
   rintro xv w' ⟨v2, hx, H⟩
   have H := H.padG [] [⟨false, sL g2 0 1 c1, 5, 1, 1, [iB 1]⟩] rfl rfl
   have H := H.pickN 2 3 [0, 1] [2, 0]
   exact ⟨Cn, ⟨g3, c2, v2, Pk p3, (fun _ => (Sx.put_same F (by decide) _).trans hx), qc2, (by show Sx.Own _ _ _ _ _; rw [show Inv.add L 4 3 = true from t3, show Inv.add L 4 5 = false from f5]; exact H)⟩⟩
  ·intro L A w up hun hd F ⟨g3, c2, v1, p3, p4, qc2, H⟩
   have t3 : L 3 = true := hd 3 rfl
   have t4 : L 4 = true := hd 4 rfl
   have f5 : L 5 = false := hun
   rw [t3, t4, f5] at H
   have hbc2 := qc2 t3
   have F := Fr.add F (p3 t3)
   have F := Fr.add F (p4 t4)
   refine step_on rfl (d_store (i := 1) (xs := [v1]) (us := [v1]) sz_66 F H rfl rfl rfl (by obtain ⟨_, _, hv0⟩ := Sx.len_of (k := 3) (v := v1) (rowEq (H.row 0 _ rfl rfl) rfl rfl rfl rfl rfl); rw [hv0]; rfl) rfl (by obtain ⟨_, _, hv0⟩ := Sx.len_of (k := 3) (v := v1) (rowEq (H.row 0 _ rfl rfl) rfl rfl rfl rfl rfl); rw [hv0]; rfl) rfl (Nat.le_of_ble_eq_true rfl) rfl) ?_
   intro xv w' H
   exact ⟨Cn, ⟨g3, c2, v1, p3, p4, qc2, (by show Sx.Own _ _ _ _ _; rw [show Inv.add L 5 3 = true from t3, show Inv.add L 5 4 = true from t4]; exact H)⟩⟩
 ·intro L A w hL F ⟨g3, c2, v1, p3, p4, qc2, H⟩
  have t3 : L 3 = true := hL 3 rfl
  have t4 : L 4 = true := hL 4 rfl
  have t5 : L 5 = true := hL 5 rfl
  rw [t3, t4, t5] at H
  have F := Fr.add F (p3 t3)
  have F := Fr.add F (p4 t4)
  have hbc2 := qc2 t3
  have H := H.pickN 2 2 [0, 1] [0]
  have F := F.tq [] rfl
  obtain ⟨g5, c4, rfl, hbc4, hdc4⟩ := H.open (i := 0) rfl (by decide)
  try dsimp only [Exit.then, Exit.inBlock, Exit.jump, Exit.noGoto]
  refine Sx.end0 F Tryz.results88 ?_
  exact ⟨_, rfl, g5, c4, (by omega), rfl, H.pickN 2 1 [1] [0]⟩
theorem cx15 (H : Sx.Own w0 w bs rs K) : Cq 60 #[L154] w fun x w' => ∃ g4 c2 : Nat, 3 ≤ c2 ∧ x = sL g4 0 3 c2 ∧ Sx.Own w0 w' (bs) (⟨true, sL g4 0 3 c2, 5, 1, 3, [iB 1, iB 0, iB 0]⟩ :: rs) K := by
 refine En Tryz.func60 Tryz.ntmps60 fun A F => ?_
 refine Sp fun _ kk => Zb F (d_box F H rfl rfl L155 rfl) fun g1 A w F H => ?_
 refine Av F fun A F => ?_
 refine Nl kk (Sp fun _ kk => ?_)
 iterate 2 (refine Av F ?_; intro A F)
 refine Zv F (d_conv (v := iB 1) F rfl rfl (by kernel_rfl)) fun A F => ?_
 refine Zr (mk := fun v => v) F (d_litR (qs := #[(0, iB 1)]) (cs := #[iB 1]) (E := 5) (z := 1) F H rfl rfl (fun _ => by kernel_rfl) rfl (by decide)) fun v1 A w F H => ?_
 obtain ⟨g2, c1, rfl, hbc1, hdc1⟩ := H.open (i := 0) rfl (by decide)
 refine Zb F (d_alloc H rfl [nS] zero_66) fun g3 A w F H => ?_
 refine Zs 0 [sL g2 0 1 c1] sz_66 F H fun A w F H => ?_
 refine Nl kk (Sp fun _ kk => Zv F (d_mkFunc (fv := []) (cv := [pT g3 0]) F rfl rfl rfl) fun A F => ?_)
 refine Av F fun A F => ?_
 refine Nl kk (Sx.seq fun K4 hK4 => Sp fun _ kk => ?_)
 iterate 2 (refine Av F ?_; intro A F)
 refine Nl kk (wp_block (Sp fun _ kk => ?_))
 iterate 2 (refine Av F ?_; intro A F)
 refine Nl kk (condF F rfl (Sp fun _ kk => ?_))
 iterate 2 (refine Av F ?_; intro A F)
 refine Nl kk (condF F rfl (Sp fun _ kk => ?_))
 iterate 2 (refine Av F ?_; intro A F)
 refine Nl kk (condF F rfl (Sx.plain ?_))
 iterate 3 (refine Av F ?_; intro A F)
 refine Zv F (d_conv (v := iU 0) F rfl rfl (by kernel_rfl)) fun A F => ?_
 refine Zx F (d_callCO (fv := []) (vs := [iU 0, iI 2]) (cv := [pT g3 0]) if_88 F rfl rfl rfl (cx14 (by omega) H)) ?_
 rintro _ w ⟨g4, c2, hbc2, rfl, H⟩ A F
 refine Sx.nil (hK4 _ _ (Sx.seq fun K9 hK9 => Sp fun _ kk => ?_))
 iterate 2 (refine Av F ?_; intro A F)
 refine Nl kk (wp_block (Sx.seq fun K11 hK11 => Sp fun _ kk => ?_))
 iterate 2 (refine Av F ?_; intro A F)
 refine Nl kk (condF F rfl (Sx.plain ?_))
 iterate 2 (refine Av F ?_; intro A F)
 refine Sx.nil (hK11 _ _ (condF F rfl (Sp fun _ kk => ?_)))
 iterate 2 (refine Av F ?_; intro A F)
 refine Nl kk (condF F rfl (Sp fun _ kk => ?_))
 iterate 2 (refine Av F ?_; intro A F)
 refine Nl kk (condF F rfl (wp_skip (hK9 _ _ (Sp fun _ kk => ?_))))
 iterate 2 (refine Av F ?_; intro A F)
 refine Nl kk (Wr (ret1 F Tryz.results60 (res_tmp F rfl) ?_))
 exact ⟨_, rfl, g4, c2, (by omega), rfl, H.pickN 2 1 [] [0]⟩
abbrev L156 : Value := .agg #[iI 3, iI 0, iI 0, iI 0, iU 0, iU 0, iU 0, iU 0, nS]
abbrev L157 : List Value := [iI 3, iI 0, iI 0, iI 0, iU 0, iU 0, iU 0, iU 0, nS]
theorem cx16 (H : Sx.Own w0 w bs rs K) : Cr 86 #[L156] w0 w (.tuple #[L156, bT]) bs rs K := by
 refine En Tryz.func86 Tryz.ntmps86 fun A F => ?_
 refine Sp fun _ kk => Zb F (d_box F H rfl rfl L157 rfl) fun g1 A w F H => ?_
 refine Zb F (d_alloc H rfl L146 zero_71) fun g2 A w F H => ?_
 refine Av F fun A F => ?_
 refine Nl kk (Sp fun _ kk => ?_)
 iterate 2 (refine Av F ?_; intro A F)
 refine Zv F (d_build (qs := #[(0, iI 3)]) (v := L156) F rfl rfl (by kernel_rfl)) fun A F => ?_
 refine Zb F (d_alloc H rfl L146 zero_71) fun g3 A w F H => ?_
 refine Zs 0 L157 sz_71 F H fun A w F H => ?_
 refine Nl kk (Sx.seq fun K3 hK3 => Sp fun _ kk => ?_)
 iterate 2 (refine Av F ?_; intro A F)
 refine Nl kk (wp_block (Sp fun _ kk => ?_))
 iterate 2 (refine Av F ?_; intro A F)
 refine Nl kk (condF F rfl (Sx.seq fun K6 hK6 => Sp fun _ kk => ?_))
 iterate 2 (refine Av F ?_; intro A F)
 refine Nl kk (condF F rfl (Sp fun _ kk => ?_))
 iterate 2 (refine Av F ?_; intro A F)
 refine Nl kk (condF F rfl (Sx.plain ?_))
 iterate 2 (refine Av F ?_; intro A F)
 refine Sx.nil (hK6 _ _ (condT F rfl (Sx.plain ?_)))
 iterate 3 (refine Av F ?_; intro A F)
 refine Zs 0 L157 sz_3 F H fun A w F H => ?_
 refine Sx.nil (hK3 _ _ (Sp fun _ kk => Av F fun A F => ?_))
 refine Zs 1 L157 sz_71 F H fun A w F H => ?_
 refine Av F fun A F => ?_
 refine Nl kk (Wr (ret2 F Tryz.results86 (res_row (i := 1) (xs := L157) rw_71 F H rfl rfl rfl rfl) (res_tmp F rfl) ?_))
 exact ⟨_, rfl, rfl, H.pickN 3 0 [] []⟩
theorem cx17 (H : Sx.Own w0 w bs rs K) : Cr 59 #[L156] w0 w (iI 0) bs rs K := by
 refine En Tryz.func59 Tryz.ntmps59 fun A F => ?_
 refine Sp fun _ kk => Zb F (d_box F H rfl rfl L157 rfl) fun g1 A w F H => ?_
 refine Av F fun A F => ?_
 refine Nl kk (Sp fun _ kk => Av F fun A F => ?_)
 refine Zx F (Do if_86 F (cx16 H)) ?_
 rintro _ w ⟨rfl, H⟩ A F
 iterate 3 (refine Av F ?_; intro A F)
 refine Zb F (d_alloc H rfl L146 zero_71) fun g2 A w F H => ?_
 refine Zs 0 L157 sz_71 F H fun A w F H => ?_
 refine Av F fun A F => ?_
 refine Nl kk (Sp fun _ kk => ?_)
 iterate 38 (refine Av F ?_; intro A F)
 refine Zn bT F fun A F => ?_
 iterate 4 (refine Av F ?_; intro A F)
 refine Zv F (d_lenS el_66 F rfl rfl) fun A F => ?_
 iterate 2 (refine Av F ?_; intro A F)
 refine Zv F (d_lenS el_66 F rfl rfl) fun A F => ?_
 iterate 3 (refine Av F ?_; intro A F)
 refine Nl kk (Sx.seq fun K4 hK4 => Sp fun _ kk => Av F fun A F => ?_)
 refine Zv F (d_un (v := bF) F rfl rfl rfl) fun A F => ?_
 iterate 2 (refine Av F ?_; intro A F)
 refine Zv F (d_un (v := bF) F rfl rfl rfl) fun A F => ?_
 iterate 4 (refine Av F ?_; intro A F)
 refine Zx F (Do if_87 F (cx2 H)) ?_
 rintro _ w ⟨rfl, H⟩ A F
 refine Zv F (d_un (v := bF) F rfl rfl rfl) fun A F => ?_
 iterate 4 (refine Av F ?_; intro A F)
 refine Zx F (Do if_87 F (cx2 H)) ?_
 rintro _ w ⟨rfl, H⟩ A F
 refine Zv F (d_un (v := bF) F rfl rfl rfl) fun A F => ?_
 iterate 4 (refine Av F ?_; intro A F)
 refine Zx F (Do if_87 F (cx11 H)) ?_
 rintro _ w ⟨rfl, H⟩ A F
 refine Zv F (d_un (v := bF) F rfl rfl rfl) fun A F => ?_
 iterate 4 (refine Av F ?_; intro A F)
 refine Zv F (d_lenS el_66 F rfl rfl) fun A F => ?_
 iterate 2 (refine Av F ?_; intro A F)
 refine Nl kk (condF F rfl (wp_skip (hK4 _ _ (Sp fun _ kk => Av F fun A F => ?_))))
 refine Nl kk (Wr (ret1 F Tryz.results59 (res_tmp F rfl) ?_))
 exact ⟨_, rfl, rfl, H.pickN 2 0 [] []⟩
theorem cx18 (hbc1 : 1 ≤ c1) (H : Sx.Own w0 w (Bt g1 [sL g2 0 1 c1] :: bs) (⟨true, sL g2 0 1 c1, 5, 1, 1, [iB 3]⟩ :: rs) K) : Cq 88 #[iU 0, iI 2, pT g1 0] w fun x w' => ∃ g5 c4 : Nat, 3 ≤ c4 ∧ x = .tuple #[] ∧ Sx.Own w0 w' (Bt g1 [sL g5 0 3 c4] :: bs) (⟨true, sL g5 0 3 c4, 5, 1, 3, [iB 3, iB 0, iB 0]⟩ :: rs) K := by
 refine En Tryz.func88 Tryz.ntmps88 fun A F => ?_
 have F := F.tq [(0, iU 0), (1, iI 2), (2, pT g1 0)] rfl
 refine Dn F [some (sL g2 0 1 c1), some (iU 0), some (iI 2), none, none, none] (fun L A w => ∃ g3 : Nat, ∃ c2 : Nat, ∃ v1 : Value, (L 3 = true → A.eval (.tmp 8) = sL g3 0 2 c2) ∧ (L 4 = true → A.eval (.tmp 9) = v1) ∧ (L 3 = true → 16 ≤ c2) ∧ Sx.Own w0 w ((L 3, g3, L150) :: Bt g1 (cond (L 5) [v1] [sL g2 0 1 c1]) :: bs) (⟨L 4, v1, 5, 1, 3, [iB 3, iB 0, iB 0]⟩ :: ⟨cond (L 4) false (true), sL g2 0 1 c1, 5, 1, 1, [iB 3]⟩ :: rs) K) ⟨0, 0, undef, (fun h => by cases h), (fun h => by cases h), (fun h => by cases h), H.drew.padG L152 [⟨false, undef, 5, 1, 3, [iB 3, iB 0, iB 0]⟩] rfl rfl⟩ ?_ ?_
 ·refine ⟨?_, ?_, ?_, ?_, ?_, ?_, trivial⟩
  ·intro L A w up hun hd F ⟨g3, c2, v1, p3, p4, qc2, H⟩
   have f4 : L 4 = false := up 4 0 rfl hun
   have f5 : L 5 = false := up 5 0 rfl hun
   have Hj := H; rw [f4, f5] at Hj
   refine step_on rfl (Ld 1 one_66 F Hj) ?_
   rintro xv w' ⟨hx, rfl⟩
   exact ⟨Cs hx, ⟨g3, c2, v1, Pk p3, Nf f4, qc2, H⟩⟩
  ·intro L A w up hun hd F ⟨g3, c2, v1, p3, p4, qc2, H⟩
   have f3 : L 3 = false := up 3 1 rfl hun
   have f4 : L 4 = false := up 4 3 rfl f3
   have f5 : L 5 = false := up 5 1 rfl hun
   have Hj := H; rw [f3, f4, f5] at Hj
   refine step_on rfl (d_move F (Or.inl rfl) rfl) ?_
   rintro xv w' ⟨hx, rfl⟩
   exact ⟨Cs hx, ⟨g3, c2, v1, Nf f3, Nf f4, Nf f3, H⟩⟩
  ·intro L A w up hun hd F ⟨g3, c2, v1, p3, p4, qc2, H⟩
   have f3 : L 3 = false := up 3 2 rfl hun
   have f4 : L 4 = false := up 4 3 rfl f3
   have f5 : L 5 = false := up 5 2 rfl hun
   have Hj := H; rw [f3, f4, f5] at Hj
   refine step_on rfl (d_move F (Or.inl rfl) rfl) ?_
   rintro xv w' ⟨hx, rfl⟩
   exact ⟨Cs hx, ⟨g3, c2, v1, Nf f3, Nf f4, Nf f3, H⟩⟩
  ·intro L A w up hun hd F ⟨g3, c2, v1, p3, p4, qc2, H⟩
   have f3 : L 3 = false := hun
   have f4 : L 4 = false := up 4 3 rfl hun
   have f5 : L 5 = false := up 5 3 rfl hun
   rw [f3, f4, f5] at H
   have H : Sx.Own w0 w ((false, g3, L150) :: Bt g1 [sL g2 0 1 c1] :: bs) (⟨false, v1, 5, 1, 3, [iB 3, iB 0, iB 0]⟩ :: ⟨true, sL g2 0 1 c1, 5, 1, 1, [iB 3]⟩ :: rs) K := H
   have H := H.pickN 2 2 [0, 1] [1]
   refine step_on rfl (Do if_89 F (cx13 H)) ?_
   rintro xv w' ⟨g4, c3, hbc3, hx, H⟩
   have H := H.padG [] [⟨false, v1, 5, 1, 3, [iB 3, iB 0, iB 0]⟩] rfl rfl
   have H := H.pickN 3 2 [0, 2] [0, 1]
   exact ⟨Cn, ⟨g4, c3, v1, (fun _ => (Sx.put_same F (by decide) _).trans hx), Nf f4, (fun _ => by omega), (by show Sx.Own _ _ _ _ _; rw [show Inv.add L 3 4 = false from f4, show Inv.add L 3 5 = false from f5]; exact H)⟩⟩
  ·intro L A w up hun hd F ⟨g3, c2, v1, p3, p4, qc2, H⟩
   have t3 : L 3 = true := hd 3 rfl
   have f4 : L 4 = false := hun
   have f5 : L 5 = false := up 5 4 rfl hun
   rw [t3, f4, f5] at H
   have hbc2 := qc2 t3
   have F := Fr.add F (p3 t3)
   refine step_on rfl (d_appendW (i := 1) (news := [iB 0, iB 0]) el_66 F H rfl rfl rfl rfl rfl (fun j u hu => Sx.box_part (news := [iB 0, iB 0]) (H.box 0 g3 _ rfl).1 rfl j u hu) rfl rfl (by decide) (by decide)) ?_
   rintro xv w' ⟨v2, hx, H⟩
   have H := H.padG [] [⟨false, sL g2 0 1 c1, 5, 1, 1, [iB 3]⟩] rfl rfl
   have H := H.pickN 2 3 [0, 1] [2, 0]
   exact ⟨Cn, ⟨g3, c2, v2, Pk p3, (fun _ => (Sx.put_same F (by decide) _).trans hx), qc2, (by show Sx.Own _ _ _ _ _; rw [show Inv.add L 4 3 = true from t3, show Inv.add L 4 5 = false from f5]; exact H)⟩⟩
  ·intro L A w up hun hd F ⟨g3, c2, v1, p3, p4, qc2, H⟩
   have t3 : L 3 = true := hd 3 rfl
   have t4 : L 4 = true := hd 4 rfl
   have f5 : L 5 = false := hun
   rw [t3, t4, f5] at H
   have hbc2 := qc2 t3
   have F := Fr.add F (p3 t3)
   have F := Fr.add F (p4 t4)
   refine step_on rfl (d_store (i := 1) (xs := [v1]) (us := [v1]) sz_66 F H rfl rfl rfl (by obtain ⟨_, _, hv0⟩ := Sx.len_of (k := 3) (v := v1) (rowEq (H.row 0 _ rfl rfl) rfl rfl rfl rfl rfl); rw [hv0]; rfl) rfl (by obtain ⟨_, _, hv0⟩ := Sx.len_of (k := 3) (v := v1) (rowEq (H.row 0 _ rfl rfl) rfl rfl rfl rfl rfl); rw [hv0]; rfl) rfl (Nat.le_of_ble_eq_true rfl) rfl) ?_
   intro xv w' H
   exact ⟨Cn, ⟨g3, c2, v1, p3, p4, qc2, (by show Sx.Own _ _ _ _ _; rw [show Inv.add L 5 3 = true from t3, show Inv.add L 5 4 = true from t4]; exact H)⟩⟩
 ·intro L A w hL F ⟨g3, c2, v1, p3, p4, qc2, H⟩
  have t3 : L 3 = true := hL 3 rfl
  have t4 : L 4 = true := hL 4 rfl
  have t5 : L 5 = true := hL 5 rfl
  rw [t3, t4, t5] at H
  have F := Fr.add F (p3 t3)
  have F := Fr.add F (p4 t4)
  have hbc2 := qc2 t3
  have H := H.pickN 2 2 [0, 1] [0]
  have F := F.tq [] rfl
  obtain ⟨g5, c4, rfl, hbc4, hdc4⟩ := H.open (i := 0) rfl (by decide)
  try dsimp only [Exit.then, Exit.inBlock, Exit.jump, Exit.noGoto]
  refine Sx.end0 F Tryz.results88 ?_
  exact ⟨_, rfl, g5, c4, (by omega), rfl, H.pickN 2 1 [1] [0]⟩
theorem cx19 (H : Sx.Own w0 w bs rs K) : Cq 60 #[L156] w fun x w' => ∃ g4 c2 : Nat, 3 ≤ c2 ∧ x = sL g4 0 3 c2 ∧ Sx.Own w0 w' (bs) (⟨true, sL g4 0 3 c2, 5, 1, 3, [iB 3, iB 0, iB 0]⟩ :: rs) K := by
 refine En Tryz.func60 Tryz.ntmps60 fun A F => ?_
 refine Sp fun _ kk => Zb F (d_box F H rfl rfl L157 rfl) fun g1 A w F H => ?_
 refine Av F fun A F => ?_
 refine Nl kk (Sp fun _ kk => ?_)
 iterate 2 (refine Av F ?_; intro A F)
 refine Zv F (d_conv (v := iB 3) F rfl rfl (by kernel_rfl)) fun A F => ?_
 refine Zr (mk := fun v => v) F (d_litR (qs := #[(0, iB 3)]) (cs := #[iB 3]) (E := 5) (z := 1) F H rfl rfl (fun _ => by kernel_rfl) rfl (by decide)) fun v1 A w F H => ?_
 obtain ⟨g2, c1, rfl, hbc1, hdc1⟩ := H.open (i := 0) rfl (by decide)
 refine Zb F (d_alloc H rfl [nS] zero_66) fun g3 A w F H => ?_
 refine Zs 0 [sL g2 0 1 c1] sz_66 F H fun A w F H => ?_
 refine Nl kk (Sp fun _ kk => Zv F (d_mkFunc (fv := []) (cv := [pT g3 0]) F rfl rfl rfl) fun A F => ?_)
 refine Av F fun A F => ?_
 refine Nl kk (Sx.seq fun K4 hK4 => Sp fun _ kk => ?_)
 iterate 2 (refine Av F ?_; intro A F)
 refine Nl kk (wp_block (Sp fun _ kk => ?_))
 iterate 2 (refine Av F ?_; intro A F)
 refine Nl kk (condF F rfl (Sp fun _ kk => ?_))
 iterate 2 (refine Av F ?_; intro A F)
 refine Nl kk (condF F rfl (Sp fun _ kk => ?_))
 iterate 2 (refine Av F ?_; intro A F)
 refine Nl kk (condF F rfl (Sx.plain ?_))
 iterate 3 (refine Av F ?_; intro A F)
 refine Zv F (d_conv (v := iU 0) F rfl rfl (by kernel_rfl)) fun A F => ?_
 refine Zx F (d_callCO (fv := []) (vs := [iU 0, iI 2]) (cv := [pT g3 0]) if_88 F rfl rfl rfl (cx18 (by omega) H)) ?_
 rintro _ w ⟨g4, c2, hbc2, rfl, H⟩ A F
 refine Sx.nil (hK4 _ _ (Sx.seq fun K9 hK9 => Sp fun _ kk => ?_))
 iterate 2 (refine Av F ?_; intro A F)
 refine Nl kk (wp_block (Sx.seq fun K11 hK11 => Sp fun _ kk => ?_))
 iterate 2 (refine Av F ?_; intro A F)
 refine Nl kk (condF F rfl (Sx.plain ?_))
 iterate 2 (refine Av F ?_; intro A F)
 refine Sx.nil (hK11 _ _ (condF F rfl (Sp fun _ kk => ?_)))
 iterate 2 (refine Av F ?_; intro A F)
 refine Nl kk (condF F rfl (Sp fun _ kk => ?_))
 iterate 2 (refine Av F ?_; intro A F)
 refine Nl kk (condF F rfl (wp_skip (hK9 _ _ (Sp fun _ kk => ?_))))
 iterate 2 (refine Av F ?_; intro A F)
 refine Nl kk (Wr (ret1 F Tryz.results60 (res_tmp F rfl) ?_))
 exact ⟨_, rfl, g4, c2, (by omega), rfl, H.pickN 2 1 [] [0]⟩
abbrev L158 : List Value := [iI 0, iI 0, iI 0, iI 1, iU 0, iU 0, iU 0, iU 0, nS, iI 1, iI 0, iI 0, iI 0, iU 0, iU 0, iU 0, iU 0, nS, iI 3, iI 0, iI 0, iI 0, iU 0, iU 0, iU 0, iU 0, nS]
abbrev L159 : List Value := [iB 0, iB 1, iB 0, iB 0, iB 0, iB 0, iB 0, iB 0, iB 0, iB 0, iB 1, iB 0, iB 0, iB 3, iB 0, iB 0]
theorem cx20 (hbc1 : 3 ≤ c1) (H : Sx.Own w0 w (bs) (⟨true, sL g1 0 3 c1, 71, 9, 3, L158⟩ :: rs) K) : Cq 23 #[sL g1 0 3 c1] w fun x w' => ∃ g10 c7 : Nat, 16 ≤ c7 ∧ x = .tuple #[sL g10 0 16 c7, iI 0] ∧ Sx.Own w0 w' (bs) (⟨true, sL g1 0 3 c1, 71, 9, 3, L158⟩ :: ⟨true, sL g10 0 16 c7, 5, 1, 16, L159⟩ :: rs) K := by
 refine En Tryz.func23 Tryz.ntmps23 fun A F => ?_
 refine Sp fun _ kk => ?_
 iterate 2 (refine Av F ?_; intro A F)
 refine Nl kk (Sx.seq fun K2 hK2 => Sp fun _ kk => Av F fun A F => ?_)
 refine Zv F (d_lenS el_83 F rfl rfl) fun A F => ?_
 refine Av F fun A F => ?_
 refine Nl kk (condF F rfl (wp_skip (hK2 _ _ (Sp fun _ kk => Av F fun A F => ?_))))
 refine Nl kk (Sx.seq fun K5 hK5 => Sp fun _ kk => Av F fun A F => ?_)
 refine Zv F (d_lenS el_83 F rfl rfl) fun A F => ?_
 refine Av F fun A F => ?_
 refine Nl kk (wp_block (wp_loop_rounds 40 ?_))
 refine Rs ?_
 refine Sp fun _ kk => Av F fun A F => ?_
 refine Nl kk (Sx.seq fun K8 hK8 => condT F rfl (wp_skip (hK8 _ _ (Sx.seq fun K9 hK9 => wp_block (Sp fun _ kk => Zv F (d_ixZ (k := 0) (g := g1) (off := 0) (z := 9) el_83 F rfl rfl rfl rfl rfl (by omega)) fun A F => ?_)))))
 refine Zv F (Lr 0 L145 rw_71 F (H.rowBox (i := 0) rfl)) fun A F => ?_
 refine Zb F (d_alloc H rfl L146 zero_71) fun g2 A w F H => ?_
 refine Zs 0 L145 sz_71 F H fun A w F H => ?_
 refine Nl kk (Sx.seq fun K11 hK11 => Sp fun _ kk => Av F fun A F => ?_)
 refine Zx F (Do if_59 F (cx4 H)) ?_
 rintro _ w ⟨rfl, H⟩ A F
 refine Av F fun A F => ?_
 refine Nl kk (Sp fun _ kk => ?_)
 iterate 2 (refine Av F ?_; intro A F)
 refine Nl kk (condF F rfl (wp_skip (hK11 _ _ (Sx.plain ?_))))
 iterate 2 (refine Av F ?_; intro A F)
 refine Zx F (Do if_60 F (cx9 H)) ?_
 rintro _ w ⟨g3, c2, hbc2, rfl, H⟩ A F
 have H := Sx.Own.nilR H 5 1
 refine Zr (mk := fun v => v) F (d_appendW (i := 0) (news := L151) el_66 F H rfl rfl rfl rfl rfl (fun j u hu => Sx.box_part (news := L151) ((H.rowBox (i := 1) rfl).box 0 g3 _ rfl).1 rfl j u hu) rfl rfl (by decide) (by decide)) fun v1 A w F H => ?_
 obtain ⟨g4, c3, rfl, hbc3, hdc3⟩ := H.open (i := 0) rfl (by decide)
 refine Av F fun A F => ?_
 refine Sx.nil (hK9 _ _ (Sx.plain ?_))
 refine Zn (iI 1) F fun A F => ?_
 refine Av F fun A F => ?_
 refine Sx.nil (Rs ?_)
 refine Sp fun _ kk => Av F fun A F => ?_
 refine Nl kk (Sx.seq fun K15 hK15 => condT F rfl (wp_skip (hK15 _ _ (Sx.seq fun K16 hK16 => wp_block (Sp fun _ kk => Zv F (d_ixZ (k := 1) (g := g1) (off := 0) (z := 9) el_83 F rfl rfl rfl rfl rfl (by omega)) fun A F => ?_)))))
 refine Zv F (Lr 0 L155 rw_71 F (H.rowBox (i := 2) rfl)) fun A F => ?_
 refine Zb F (d_alloc H rfl L146 zero_71) fun g5 A w F H => ?_
 refine Zs 0 L155 sz_71 F H fun A w F H => ?_
 refine Nl kk (Sx.seq fun K18 hK18 => Sp fun _ kk => Av F fun A F => ?_)
 refine Zx F (Do if_59 F (cx12 H)) ?_
 rintro _ w ⟨rfl, H⟩ A F
 refine Av F fun A F => ?_
 refine Nl kk (Sp fun _ kk => ?_)
 iterate 2 (refine Av F ?_; intro A F)
 refine Nl kk (condF F rfl (wp_skip (hK18 _ _ (Sx.plain ?_))))
 iterate 2 (refine Av F ?_; intro A F)
 refine Zx F (Do if_60 F (cx15 H)) ?_
 rintro _ w ⟨g6, c4, hbc4, rfl, H⟩ A F
 refine Zr (mk := fun v => v) F (d_appendW (i := 1) (news := [iB 1, iB 0, iB 0]) el_66 F H rfl rfl rfl rfl rfl (fun j u hu => Sx.box_part (news := [iB 1, iB 0, iB 0]) ((H.rowBox (i := 0) rfl).box 0 g6 _ rfl).1 rfl j u hu) rfl rfl (by decide) (by decide)) fun v2 A w F H => ?_
 obtain ⟨g7, c5, rfl, hbc5, hdc5⟩ := H.open (i := 1) rfl (by decide)
 refine Av F fun A F => ?_
 refine Sx.nil (hK16 _ _ (Sx.plain ?_))
 refine Zn (iI 2) F fun A F => ?_
 refine Av F fun A F => ?_
 refine Sx.nil (Rs ?_)
 refine Sp fun _ kk => Av F fun A F => ?_
 refine Nl kk (Sx.seq fun K22 hK22 => condT F rfl (wp_skip (hK22 _ _ (Sx.seq fun K23 hK23 => wp_block (Sp fun _ kk => Zv F (d_ixZ (k := 2) (g := g1) (off := 0) (z := 9) el_83 F rfl rfl rfl rfl rfl (by omega)) fun A F => ?_)))))
 refine Zv F (Lr 0 L157 rw_71 F (H.rowBox (i := 3) rfl)) fun A F => ?_
 refine Zb F (d_alloc H rfl L146 zero_71) fun g8 A w F H => ?_
 refine Zs 0 L157 sz_71 F H fun A w F H => ?_
 refine Nl kk (Sx.seq fun K25 hK25 => Sp fun _ kk => Av F fun A F => ?_)
 refine Zx F (Do if_59 F (cx17 H)) ?_
 rintro _ w ⟨rfl, H⟩ A F
 refine Av F fun A F => ?_
 refine Nl kk (Sp fun _ kk => ?_)
 iterate 2 (refine Av F ?_; intro A F)
 refine Nl kk (condF F rfl (wp_skip (hK25 _ _ (Sx.plain ?_))))
 iterate 2 (refine Av F ?_; intro A F)
 refine Zx F (Do if_60 F (cx19 H)) ?_
 rintro _ w ⟨g9, c6, hbc6, rfl, H⟩ A F
 refine Zr (mk := fun v => v) F (d_appendW (i := 2) (news := [iB 3, iB 0, iB 0]) el_66 F H rfl rfl rfl rfl rfl (fun j u hu => Sx.box_part (news := [iB 3, iB 0, iB 0]) ((H.rowBox (i := 0) rfl).box 0 g9 _ rfl).1 rfl j u hu) rfl rfl (by decide) (by decide)) fun v3 A w F H => ?_
 obtain ⟨g10, c7, rfl, hbc7, hdc7⟩ := H.open (i := 2) rfl (by decide)
 refine Av F fun A F => ?_
 refine Sx.nil (hK23 _ _ (Sx.plain ?_))
 refine Zn (iI 3) F fun A F => ?_
 refine Av F fun A F => ?_
 refine Sx.nil (Rs ?_)
 refine Sp fun _ kk => Av F fun A F => ?_
 refine Nl kk (Sx.seq fun K29 hK29 => condF F rfl (wp_exit ?_))
 try dsimp only [Exit.then, Exit.jump, Exit.noGoto]
 refine exit_here (hK5 _ _ (Sp fun _ kk => ?_))
 iterate 3 (refine Av F ?_; intro A F)
 refine Nl kk (Wr (ret2 F Tryz.results23 (res_tmp F rfl) (res_tmp F rfl) ?_))
 exact ⟨_, rfl, g10, c7, (by omega), rfl, H.pickN 3 5 [] [4, 2]⟩
end
end Go.Proofs.YteecadoakmdibaaGreat
